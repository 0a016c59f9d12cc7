/- A part of the proof that tabula/tabulalaw25.PackTexts returns true for every input, each argument reading as it did (its card: the last text). No conditions of its own. -/
import Derived.Test.YtpjknnnomkkloaaGreatDoorPA
import Derived.Laws.StructEq
import Derived.ChangeKeysEq
import Derived.MapKept
import Derived.Lib.AppendStr
namespace Go.Abs
open Go.RowKit
variable {F : Nat → Prop}
inductive EP where
 | b | i | s | nil
 | cons (off n : Nat) (agg : Bool) (f r : EP)
def aeq : EP → AVal → AVal → Option Bool
 | .b, .bool a, .bool c => some (a == c)
 | .i, .int k a, .int j c => cond (Qr k j) (some (a == c)) none
 | .s, .str a, .str c => some (a == c)
 | .nil, .agg _, .agg _ => some true
 | .cons off n g f r, x, y => match H9 n g off x with
   | some a => match H9 n g off y with
     | some c => match aeq f a c with
       | some b => match aeq r x y with
         | some c => some (b && c)
         | none => none
       | none => none
     | none => none
   | none => none
 | _, _, _ => none
def Pq (k : Nat) (g : Bool) (f : EP) : Nat → Nat → EP
 | _, 0 => .nil
 | i, m + 1 => .cons (i * k) k g f (Pq k g f (i + 1) m)
mutual
def Qh (P : Program) : Nat → TypeId → Option EP
 | 0, _ => none
 | d + 1, t => match P.underlying t with
   | some .bool => some .b
   | some (.int _) => some .i
   | some .string => some .s
   | some (.struct fields) => cond (P.stoodInHeld t) none (F6 P d fields.toList)
   | some (.array n e) => match L2 P e with
     | some (k, g) => match Qh P d e with
       | some f => some (Pq k g f 0 n)
       | none => none
     | none => none
   | _ => none
def F6 (P : Program) : Nat → List Field → Option EP
 | 0, _ => none
 | _ + 1, [] => some .nil
 | d + 1, f :: fs => if f.name = "_" then none else match L2 P f.type with
   | some (n, g) => match Qh P d f.type with
     | some e => match F6 P d fs with
       | some r => some (.cons f.offset n g e r)
       | none => none
     | none => none
   | none => none
end
section
variable {P : Program} {w : World} {bs : List Nat} {H : Hz}
theorem Ni {t : TypeId} {n off : Nat} {g : Bool} (ht : L2 P t = some (n, g)) {xs : List AVal} {us : List Value} (hx : A5 F bs H w xs us) {a : AVal} (h : H9 n g off (.agg xs) = some a) :
 ∃ ca, (part t us.toArray off).run P w = .ok ca w ∧ Rep F bs H w a ca := by
 obtain ⟨h1, h2⟩ := O3 w ht
 cases g with
 | true =>
   simp only [H9, iS] at h
   subst h
   refine ⟨.agg (us.toArray.extract off (off + n)), ?_, ?_⟩
   · simp [part, h1, h2]
   · simp only [Rep]
     refine ⟨(us.drop off).take n, ?_, (hx.drop off).take n⟩
     congr 1
     apply Array.ext'
     simp [List.extract]
 | false =>
   simp only [H9] at h
   split at h
   · rename_i c rest hc
     injection h with h; subst h
     have hget : xs[off]? = some c := by
      have := congrArg (fun l => l[0]?) hc
      simpa using this
     obtain ⟨u, hu, hr⟩ := hx.get hget
     exact ⟨u, by simp [part, h1, hu], hr⟩
   · cases h
def EP.chain : EP → Bool
 | .nil => true
 | .cons _ _ _ _ _ => true
 | _ => false
theorem Kv {d : Nat} {fs : List Field} {e : EP} (h : F6 P d fs = some e) : e.chain = true := by
 cases d with
 | zero => simp only [F6] at h; cases h
 | succ d =>
   cases fs with
   | nil => simp only [F6] at h; injection h with h; subst h; rfl
   | cons f fs =>
     simp only [F6] at h
     repeat' (split at h)
     all_goals first
      | (cases h; done)
      | (injection h with h; subst h; rfl)
theorem Md {n off : Nat} {g : Bool} {x a : AVal} (h : H9 n g off x = some a) : ∃ xs, x = .agg xs := by
 cases x <;> simp only [H9, reduceCtorEq] at h
 exact ⟨_, rfl⟩
theorem Vu {e : EP} (he : e.chain = true) {x y : AVal} {r : Bool} (h : aeq e x y = some r) : ∃ xs ys, x = .agg xs ∧ y = .agg ys := by
 cases e with
 | nil =>
   cases x <;> cases y <;> simp only [aeq, reduceCtorEq] at h
   exact ⟨_, _, rfl, rfl⟩
 | cons off n g f r1 =>
   simp only [aeq] at h
   split at h
   · rename_i a ha
     split at h
     · rename_i c hc
       obtain ⟨xs, rfl⟩ := Md ha
       obtain ⟨ys, rfl⟩ := Md hc
       exact ⟨_, _, rfl, rfl⟩
     · cases h
   · cases h
 | _ => cases he
theorem Pg {k : Nat} {g : Bool} {f : EP} : ∀ {i m : Nat}, (Pq k g f i m).chain = true
 | _, 0 => rfl
 | _, _ + 1 => rfl
theorem R4 {d : Nat} {e : TypeId} {n : Nat} {g : Bool} {f : EP} (ht : L2 P e = some (n, g)) (hrec : ∀ (x y : AVal) (cx cy : Value) (r : Bool), Rep F bs H w x cx → Rep F bs H w y cy → aeq f x y = some r → (Op.equalIn d e cx cy).run P w = .ok r w)
 {xs ys : List AVal} {us vs : List Value} (hx : A5 F bs H w xs us) (hy : A5 F bs H w ys vs) : ∀ (m i : Nat) (r : Bool), aeq (Pq n g f i m) (.agg xs) (.agg ys) = some r → (Op.eqItems d e n us.toArray vs.toArray (List.range' i m)).run P w = .ok r w
 | 0, i, r, h => by
   simp only [Pq, aeq, iS] at h
   subst h
   simp [Op.eqItems]
 | m + 1, i, r, he => by
   simp only [Pq, aeq] at he
   split at he
   · rename_i a ha
     split at he
     · rename_i c hc
       obtain ⟨ca, p1, p2⟩ := Ni ht hx ha
       obtain ⟨cc, q1, q2⟩ := Ni ht hy hc
       split at he
       · rename_i b hb
         split at he
         · rename_i b2 hb2
           injection he with he; subst he
           simp only [List.range'_succ, Op.eqItems, sRb, p1, q1, rAo, hrec a c ca cc b p2 q2 hb]
           cases b with
           | true =>
             simp only [Bool.not_true, bFt, if_false]
             exact R4 ht hrec hx hy m (i + 1) _ hb2
           | false => simp
         · cases he
       · cases he
     · cases he
   · cases he
mutual
theorem A24 : ∀ (d : Nat) (t : TypeId) (e : EP), Qh P d t = some e → ∀ (k : Nat) (x y : AVal) (cx cy : Value) (r : Bool), Rep F bs H w x cx → Rep F bs H w y cy → aeq e x y = some r → (Op.equalIn (d + k) t cx cy).run P w = .ok r w
 | 0, _, _, h, _, _, _, _, _, _, _, _, _ => by simp only [Qh] at h; cases h
 | d + 1, t, e, h, k, x, y, cx, cy, r, hx, hy, he => by
   simp only [Qh] at h
   rw [show d + 1 + k = (d + k) + 1 by omega]
   split at h
   · rename_i hu
     injection h with h; subst h
     cases x <;> cases y <;> simp only [aeq, iS, reduceCtorEq] at he
     simp only [Rep] at hx hy
     subst hx; subst hy; subst he
     exact run_equalIn_bool' w (d + k) t _ _ hu
   · rename_i k0 hu
     injection h with h; subst h
     cases x <;> cases y <;> simp only [aeq, reduceCtorEq] at he
     rename_i k1 a k2 c
     cases hk : Qr k1 k2 with
     | false => rw [hk] at he; cases he
     | true =>
       rw [hk, cond_true] at he
       injection he with he; subst he
       have := V7 hk; subst this
       simp only [Rep] at hx hy
       subst hx; subst hy
       exact run_equalIn_int w (d + k) t _ _ _ _ hu
   · rename_i hu
     injection h with h; subst h
     cases x <;> cases y <;> simp only [aeq, iS, reduceCtorEq] at he
     simp only [Rep] at hx hy
     subst hx; subst hy; subst he
     rw [run_equalIn_string w (d + k) t _ _ hu]
     simp [ByteArray.toList_mk]
   · rename_i fields hu
     cases hst : P.stoodInHeld t with
     | true => rw [hst] at h; cases h
     | false =>
       rw [hst, cond_false] at h
       have hfl : P.fieldsOf t = fields := by simp [Program.fieldsOf, hu]
       obtain ⟨xs, ys, rfl, rfl⟩ := Vu (Kv h) he
       simp only [Rep] at hx hy
       obtain ⟨us, rfl, hx⟩ := hx
       obtain ⟨vs, rfl, hy⟩ := hy
       rw [run_equalIn_agg w (d + k) t us.toArray vs.toArray (by rw [hfl]; exact hu) hst, hfl]
       exact A1s d fields.toList e h k xs ys us vs r hx hy he
   · rename_i n e' hu
     split at h
     · rename_i k' g ht
       split at h
       · rename_i f hf
         injection h with h; subst h
         obtain ⟨xs, ys, rfl, rfl⟩ := Vu Pg he
         simp only [Rep] at hx hy
         obtain ⟨us, rfl, hx⟩ := hx
         obtain ⟨vs, rfl, hy⟩ := hy
         obtain ⟨ie, hie, hsz⟩ : ∃ i, P.info? e' = some i ∧ i.size = k' := by
          unfold L2 at ht
          split at ht
          · cases ht
          · rename_i i hi
            refine ⟨i, hi, ?_⟩
            split at ht <;> simp only [iS, iP, reduceCtorEq] at ht <;> exact ht.1
         have hco : P.cellsOf e' = k' := by simp [Program.cellsOf, hie, hsz]
         rw [run_equalIn_array w (d + k) us.toArray vs.toArray hu hie, hco, List.range_eq_range']
         exact R4 ht (fun x y cx cy r h1 h2 h3 => A24 d e' f hf k x y cx cy r h1 h2 h3) hx hy n 0 r he
       · cases h
     · cases h
   · cases h
theorem A1s : ∀ (d : Nat) (fs : List Field) (e : EP), F6 P d fs = some e → ∀ (k : Nat) (xs ys : List AVal) (us vs : List Value) (r : Bool), A5 F bs H w xs us → A5 F bs H w ys vs → aeq e (.agg xs) (.agg ys) = some r → (Op.eqFields (d + k) us.toArray vs.toArray fs).run P w = .ok r w
 | 0, _, _, h, _, _, _, _, _, _, _, _, _ => by simp only [F6] at h; cases h
 | d + 1, [], e, h, k, xs, ys, us, vs, r, hx, hy, he => by
   simp only [F6] at h
   injection h with h; subst h
   simp only [aeq, iS] at he
   subst he
   rfl
 | d + 1, f :: fs, e, h, k, xs, ys, us, vs, r, hx, hy, he => by
   simp only [F6] at h
   split at h
   · cases h
   · rename_i hn
     split at h
     · rename_i n g ht
       split at h
       · rename_i e1 h1
         split at h
         · rename_i r1 h2
           injection h with h; subst h
           simp only [aeq] at he
           split at he
           · rename_i a ha
             split at he
             · rename_i c hc
               obtain ⟨ca, p1, p2⟩ := Ni ht hx ha
               obtain ⟨cc, q1, q2⟩ := Ni ht hy hc
               have hrec : ∀ b, aeq e1 a c = some b → (Op.equalIn (d + 1 + k) f.type ca cc).run P w = .ok b w := fun b hb => by
                rw [show d + 1 + k = d + (1 + k) by omega]
                exact A24 d f.type e1 h1 (1 + k) a c ca cc b p2 q2 hb
               have hf : f.name ≠ "_" := hn
               simp only [Op.eqFields, if_pos hf, sRb, p1, q1, rAo]
               split at he
               · rename_i b hb
                 split at he
                 · rename_i b2 hb2
                   injection he with he; subst he
                   cases b with
                   | true =>
                     rw [hrec _ hb]
                     simp only [rAo, Bool.not_true, bFt, if_false]
                     rw [show d + 1 + k = d + (1 + k) by omega]
                     exact A1s d fs r1 h2 (1 + k) xs ys us vs _ hx hy hb2
                   | false =>
                     rw [hrec _ hb]
                     simp
                 · cases he
               · cases he
             · cases he
           · cases he
         · cases h
       · cases h
     · cases h
end
def isSA (P : Program) (t : TypeId) : Bool :=
 match P.underlying t with
 | some (.struct _) => true
 | some (.array _ _) => true
 | _ => false
theorem Xt {d : Nat} {t : TypeId} {e : EP} (hu : isSA P t = true) (h : Qh P d t = some e) : e.chain = true := by
 cases d with
 | zero => simp only [Qh] at h; cases h
 | succ d =>
   unfold isSA at hu
   split at hu
   · rename_i fs hu'
     simp only [Qh, hu'] at h
     cases hst : P.stoodInHeld t with
     | true => rw [hst] at h; cases h
     | false => rw [hst, cond_false] at h; exact Kv h
   · rename_i n e' hu'
     simp only [Qh, hu'] at h
     repeat' (split at h)
     all_goals first
      | (cases h; done)
      | (injection h with h; subst h; exact Pg)
   · cases hu
theorem eqs_ok {op : BinOp} {t : TypeId} {e : EP} (hu : isSA P t = true) (hgd : P.eqGuardType P.depth t = false) (h : Qh P 100 t = some e) {neg : Bool} (hop : (op = .eql ∧ neg = false) ∨ (op = .neq ∧ neg = true))
 {x y : AVal} {cx cy : Value} {ox oy : Operand} {r : Bool} (hx : Rep F bs H w x cx) (hy : Rep F bs H w y cy) (he : aeq e x y = some r) :
 (do eqGuard op t ox oy cx cy; binOp op t cx cy : Sem Value).run P w = .ok (.bool (cond neg (not r) r)) w := by
 obtain ⟨xs, ys, rfl, rfl⟩ := Vu (Xt hu h) he
 have hx' := hx
 have hy' := hy
 simp only [Rep] at hx' hy'
 obtain ⟨us, rfl, _⟩ := hx'
 obtain ⟨vs, rfl, _⟩ := hy'
 have h1 := A24 100 t e h 9900 _ _ _ _ r hx hy he
 rw [sRb, run_eqGuard_agg w op t ox oy _ _ hgd, rAo]
 rcases hop with ⟨rfl, rfl⟩ | ⟨rfl, rfl⟩
 · rw [run_eql_struct, h1]; rfl
 · rw [run_neq_struct, h1]; rfl
theorem U2 {t : TypeId} {n off : Nat} {g : Bool} (ht : L2 P t = some (n, g)) {x a : AVal} {cx : Value} (hx : Rep F bs H w x cx) (h : H9 n g off x = some a) :
 ∃ us ca, cx = .agg us ∧ (part t us off).run P w = .ok ca w ∧ Rep F bs H w a ca := by
 obtain ⟨xs, rfl⟩ := Md h
 simp only [Rep] at hx
 obtain ⟨us, rfl, hx⟩ := hx
 obtain ⟨ca, h1, h2⟩ := Ni ht hx h
 exact ⟨_, ca, rfl, h1, h2⟩
end
def Qa (H : Hz) (k id off len : Nat) (cap : Option Nat) (lo hi : Option Int) : Option AV :=
 cond (Gv H id) (match lo with
  | none => some (.hsl k id off (hi.getD (len : Nat)).toNat cap, [(0, hi.getD (len : Nat)), (hi.getD (len : Nat), (len : Nat))])
  | some l => match cap with
    | some c => some (.hsl k id (cond (Nat.beq c l.toNat) off (off + l.toNat * k)) ((hi.getD (len : Nat)).toNat - l.toNat) (some (c - l.toNat)), [(0, l), (l, hi.getD (len : Nat)), (hi.getD (len : Nat), (len : Nat))])
    | none => none) (match lo with
  | none => cond (J3 H id (len * k) && Nat.beq off 0) (some (.hsl k id 0 (hi.getD (len : Nat)).toNat none, [(0, hi.getD (len : Nat)), (hi.getD (len : Nat), (len : Nat))])) none
  | some l => cond (J3 H id (len * k) && Nat.beq off 0 && Nat.ble 1 k) (some (.hsl k id (l.toNat * k) ((hi.getD (len : Nat)).toNat - l.toNat) none, [(1, l), (l, hi.getD (len : Nat)), (hi.getD (len : Nat), (len : Nat))])) none)
theorem Yf {P : Program} {w : World} {bs : List Nat} {H : Hz} {k id off len : Nat} {cap : Option Nat} {clo chi : Option Value} {lo hi : Option Int} {t e : TypeId} {v : AVal} {cx : Value} {side : List (Int × Int)}
 (ht : Dv P t = some (e, k)) (hx : Rep F bs H w (.hsl k id off len cap) cx)
 (hlo : (lo = none ∧ clo = none) ∨ ∃ k n, lo = some n ∧ clo = some (.int k n)) (hhi : (hi = none ∧ chi = none) ∨ ∃ k n, hi = some n ∧ chi = some (.int k n))
 (h : Qa H k id off len cap lo hi = some (v, side)) (hs : Af side) :
 ∃ cv, (Instr.sliceAt t cx clo chi none).run P w = .ok cv w ∧ Rep F bs H w v cv := by
 obtain ⟨hu, hsz⟩ := Em ht
 simp only [Rep] at hx
 obtain ⟨_, hx⟩ := hx
 unfold Qa at h
 cases hlv : Gv H id with
 | false =>
   rw [hlv, cond_false] at h
   cases lo with
   | some l =>
     simp only at h
     cases hgd : (J3 H id (len * k) && Nat.beq off 0 && Nat.ble 1 k) with
     | false => rw [hgd] at h; cases h
     | true =>
       rw [hgd, cond_true] at h
       simp only [iS, iP] at h
       obtain ⟨rfl, rfl⟩ := h
       obtain ⟨h0, h1, h2, _⟩ := hs
       simp only [bAt] at hgd
       have hoff := nBq hgd.1.2
       have hk1 := Nat.le_of_ble_eq_true hgd.2
       subst hoff
       have hgg := hgd.1.1
       unfold J3 at hgg
       split at hgg
       · rename_i T cs ho
         have hcl := nBq hgg
         unfold Bn at hx
         rw [ho] at hx
         obtain ⟨hle, hx⟩ := hx
         obtain ⟨b, c, hb, rfl, hlc, hcap, hop⟩ := hx (fun _ => ⟨rfl, hcl.symm⟩)
         have hr := Bw (P := P) (w := w) true len c hlc hlo hhi (show 0 ≤ (some l).getD 0 by simp only [Option.getD_some]; omega) h1 h2
         refine ⟨.slice (if c = ((some l : Option Int).getD 0).toNat then some ⟨b, 0, none⟩ else (some (⟨b, 0, none⟩ : Addr)).map (·.add (((some l : Option Int).getD 0).toNat * k))) ((hi.getD (len : Nat)).toNat - ((some l : Option Int).getD 0).toNat) (c - ((some l : Option Int).getD 0).toNat), ?_, ?_⟩
         · simp only [Instr.sliceAt, Instr.slice, sRb, A3 w hu, rAo, hr, hsz]
           rfl
         · have hhl : (hi.getD (len : Nat)).toNat ≤ len := by omega
           have hll : l.toNat ≤ (hi.getD (len : Nat)).toNat := Int.toNat_le_toNat h1
           have hmul : (hi.getD (len : Nat)).toNat * k ≤ len * k := Nat.mul_le_mul_right k hhl
           have hsplit : ((hi.getD (len : Nat)).toNat - l.toNat) * k + l.toNat * k = (hi.getD (len : Nat)).toNat * k := by
            rw [← Nat.add_mul, Nat.sub_add_cancel hll]
           have hlc2 : (hi.getD (len : Nat)).toNat - l.toNat ≤ c - l.toNat := Nat.sub_le_sub_right (Nat.le_trans hhl hlc) _
           have hpos : 0 < l.toNat * k := Nat.mul_pos (by omega) hk1
           simp only [Option.getD_some, Option.map_some, Addr.add_at]
           simp only [Rep, Bn, ho]
           refine ⟨?_, by omega, fun hop => absurd (hop trivial).1 (by omega)⟩
           by_cases hc : c = l.toNat
           · rw [if_pos hc]; exact ⟨_, _, hlc2, rfl⟩
           · rw [if_neg hc]; exact ⟨_, _, hlc2, rfl⟩
       · cases hgg
   | none =>
     simp only at h
     cases hgd : (J3 H id (len * k) && Nat.beq off 0) with
     | false => rw [hgd] at h; cases h
     | true =>
       rw [hgd, cond_true] at h
       simp only [iS, iP] at h
       obtain ⟨rfl, rfl⟩ := h
       obtain ⟨h1, h2, _⟩ := hs
       simp only [bAt] at hgd
       have hoff := nBq hgd.2
       subst hoff
       have hgg := hgd.1
       unfold J3 at hgg
       split at hgg
       · rename_i T cs ho
         have hcl := nBq hgg
         unfold Bn at hx
         rw [ho] at hx
         obtain ⟨hle, hx⟩ := hx
         obtain ⟨b, c, hb, rfl, hlc, hcap, hop⟩ := hx (fun _ => ⟨rfl, hcl.symm⟩)
         have hr := Bw (P := P) (w := w) true len c hlc hlo hhi (Int.le_refl 0) h1 h2
         refine ⟨.slice (if c = ((none : Option Int).getD 0).toNat then some ⟨b, 0, none⟩ else (some (⟨b, 0, none⟩ : Addr)).map (·.add (((none : Option Int).getD 0).toNat * k))) ((hi.getD (len : Nat)).toNat - ((none : Option Int).getD 0).toNat) (c - ((none : Option Int).getD 0).toNat), ?_, ?_⟩
         · simp only [Instr.sliceAt, Instr.slice, sRb, A3 w hu, rAo, hr, hsz]
           rfl
         · have hhl : (hi.getD (len : Nat)).toNat ≤ len := by omega
           have hmul : (hi.getD (len : Nat)).toNat * k ≤ len * k := Nat.mul_le_mul_right k hhl
           simp only [Option.getD_none, Int.toNat_zero, Nat.zero_mul, Nat.sub_zero, Option.map_some, Addr.add_at, Nat.add_zero, ite_self]
           simp only [Rep, Bn, ho]
           refine ⟨⟨_, _, by omega, rfl⟩, by omega, fun _ => ⟨b, c, hb, rfl, by omega, by simp, fun _ => hop rfl⟩⟩
       · cases hgg
 | true =>
   rw [hlv, cond_true] at h
   unfold Gv at hlv
   split at hlv
   · rename_i T cs ho
     unfold Bn at hx
     rw [ho] at hx
     obtain ⟨hle, hx⟩ := hx
     obtain ⟨b, c, hb, rfl, hlc, hcap, _⟩ := hx (by simp)
     have hbd : 0 ≤ lo.getD 0 ∧ lo.getD 0 ≤ hi.getD (len : Nat) ∧ hi.getD (len : Nat) ≤ (len : Nat) := by
      cases lo with
      | none =>
        simp only [iS, iP] at h
        obtain ⟨_, rfl⟩ := h
        obtain ⟨h1, h2, _⟩ := hs
        exact ⟨Int.le_refl 0, h1, h2⟩
      | some l =>
        cases cap with
        | none => cases h
        | some c' =>
          simp only [iS, iP] at h
          obtain ⟨_, rfl⟩ := h
          obtain ⟨h1, h2, h3, _⟩ := hs
          exact ⟨h1, h2, h3⟩
     have hr := Bw (P := P) (w := w) true len c hlc hlo hhi hbd.1 hbd.2.1 hbd.2.2
     refine ⟨.slice (if c = (lo.getD 0).toNat then some ⟨b, off, none⟩ else (some (⟨b, off, none⟩ : Addr)).map (·.add ((lo.getD 0).toNat * k))) ((hi.getD (len : Nat)).toNat - (lo.getD 0).toNat) (c - (lo.getD 0).toNat), ?_, ?_⟩
     · simp only [Instr.sliceAt, Instr.slice, sRb, A3 w hu, rAo, hr, hsz]
       rfl
     · have hhl : (hi.getD (len : Nat)).toNat ≤ len := by omega
       cases lo with
       | none =>
         simp only [iS, iP] at h
         obtain ⟨rfl, _⟩ := h
         simp only [Option.getD_none, Int.toNat_zero, Nat.zero_mul, Nat.sub_zero, Option.map_some, Addr.add_at, Nat.add_zero, ite_self]
         simp only [Rep, Bn, ho]
         have hmul : (hi.getD (len : Nat)).toNat * k ≤ len * k := Nat.mul_le_mul_right k hhl
         exact ⟨⟨_, _, by omega, rfl⟩, by omega, fun _ => ⟨b, c, hb, rfl, by omega, hcap, by simp⟩⟩
       | some l =>
         cases cap with
         | none => cases h
         | some c' =>
           have hcc := hcap c' rfl
           subst hcc
           simp only [iS, iP] at h
           obtain ⟨rfl, _⟩ := h
           simp only [Option.getD_some, Option.map_some, Addr.add_at] at hbd ⊢
           have hll : l.toNat ≤ (hi.getD (len : Nat)).toNat := Int.toNat_le_toNat hbd.2.1
           have hmul : (hi.getD (len : Nat)).toNat * k ≤ len * k := Nat.mul_le_mul_right k hhl
           have hsplit : ((hi.getD (len : Nat)).toNat - l.toNat) * k + l.toNat * k = (hi.getD (len : Nat)).toNat * k := by
            rw [← Nat.add_mul, Nat.sub_add_cancel hll]
           have hlc2 : (hi.getD (len : Nat)).toNat - l.toNat ≤ c - l.toNat := Nat.sub_le_sub_right (Nat.le_trans hhl hlc) _
           have hA : off + ((hi.getD (len : Nat)).toNat - l.toNat) * k ≤ cs.length := Nat.le_trans (Nat.add_le_add_left (Nat.le_trans (Nat.le.intro hsplit) hmul) off) hle
           have hB : off + l.toNat * k + ((hi.getD (len : Nat)).toNat - l.toNat) * k ≤ cs.length := by
            rw [Nat.add_assoc, Nat.add_comm (l.toNat * k), hsplit]
            exact Nat.le_trans (Nat.add_le_add_left hmul off) hle
           simp only [Rep, Bn, ho]
           cases hc : Nat.beq c l.toNat with
           | true =>
             have hcl := nBq hc
             rw [if_pos hcl, cond_true]
             exact ⟨⟨_, _, hlc2, rfl⟩, hA, fun _ => ⟨b, c - l.toNat, hb, rfl, hlc2, fun c'' h => by injection h, by simp⟩⟩
           | false =>
             have hcl := Nat.ne_of_beq_eq_false hc
             rw [if_neg hcl, cond_false]
             exact ⟨⟨_, _, hlc2, rfl⟩, hB, fun _ => ⟨b, c - l.toNat, hb, rfl, hlc2, fun c'' h => by injection h, by simp⟩⟩
   · cases hlv
def Qb (H : Hz) (n k : Nat) (hi : Option Int) (p : AVal) : Option AV :=
 match p with
 | .ptr id off => match H[id]? with
   | some (.cells _ cs false) => cond (Nat.ble (off + n * k) cs.length) (some (.hsl k id off (hi.getD (n : Nat)).toNat (some n), [(0, hi.getD (n : Nat)), (hi.getD (n : Nat), (n : Nat))])) none
   | _ => none
 | _ => none
theorem Xy {P : Program} {w : World} {bs : List Nat} {H : Hz} {n k : Nat} {chi : Option Value} {hi : Option Int} {t : TypeId} {p v : AVal} {cx : Value} {side : List (Int × Int)}
 (ht : Ld P t = some (n, k)) (hx : Rep F bs H w p cx) (hhi : (hi = none ∧ chi = none) ∨ ∃ k n, hi = some n ∧ chi = some (.int k n))
 (h : Qb H n k hi p = some (v, side)) (hs : Af side) :
 ∃ cv, (Instr.sliceAt t cx none chi none).run P w = .ok cv w ∧ Rep F bs H w v cv := by
 obtain ⟨e, hu, hsz⟩ := Qv ht
 cases p <;> simp only [Qb] at h <;> try (cases h; done)
 case ptr id off =>
 simp only [Rep] at hx
 obtain ⟨_, hx⟩ := hx
 unfold Dx at hx
 split at h
 · rename_i T cs ho
   rw [ho] at hx
   obtain ⟨b, hb, rfl⟩ := hx
   cases hl : Nat.ble (off + n * k) cs.length with
   | false => rw [hl] at h; cases h
   | true =>
     rw [hl, cond_true] at h
     simp only [iS, iP] at h
     obtain ⟨rfl, rfl⟩ := h
     obtain ⟨h1, h2, _⟩ := hs
     have hl := Nat.le_of_ble_eq_true hl
     have hr := Bw (P := P) (w := w) (clo := none) (lo := none) false n n (Nat.le_refl n) (.inl ⟨rfl, rfl⟩) hhi (Int.le_refl 0) h1 h2
     have hhl : (hi.getD (n : Nat)).toNat ≤ n := by
      have h2' : hi.getD (n : Nat) ≤ (n : Int) := h2
      omega
     have hmul : (hi.getD (n : Nat)).toNat * k ≤ n * k := Nat.mul_le_mul_right k hhl
     refine ⟨.slice (some ⟨b, off, none⟩) (hi.getD (n : Nat)).toNat n, ?_, ?_⟩
     · simp only [Instr.sliceAt, Instr.sureAddr, sRb, Sem.run_pure, A3 w hu, rAo, hr, hsz, Option.getD_none, Int.toNat_zero, Nat.zero_mul, Nat.sub_zero, Addr.add_at, Nat.add_zero, ite_self]
     · simp only [Rep, Bn, ho]
       exact ⟨⟨_, _, hhl, rfl⟩, by omega, fun _ => ⟨b, n, hb, rfl, hhl, fun c' h => by injection h, by simp⟩⟩
 · cases h
theorem Uj {P : Program} {W0 w : World} {bs : List Nat} {H : Hz} (hh : A7 W0 F bs H w) {id b off : Nat} {T : TypeId} {cs xs : List AVal} {us : List Value} (ho : H[id]? = some (.cells T cs false)) (hb : bs[id]? = some b)
 (hx : A5 F bs H w xs us) (h2 : off + xs.length ≤ cs.length) (h3 : xs.all AVal.one = true) :
 ∃ w', (storeCells ⟨b, off, none⟩ us).run P w = .ok () w' ∧ A7 W0 F bs (H.set id (.cells T (spl cs off xs) false)) w' ∧ Ext bs H w bs (H.set id (.cells T (spl cs off xs) false)) w' := by
 obtain ⟨vs, rest, fr, hcell, hl, hfr⟩ := hh.obj id _ b ho hb
 have hxl := hx.length
 have hvl := hl.length
 have hst := Ec (P := P) b off T fr us 0 (vs ++ rest).toArray w hcell vs.length hfr (by omega) (by simp) (hx.one h3)
 simp only [Nat.add_zero] at hst
 have hsp : (vs ++ rest).toArray.toList.take off ++ us ++ (vs ++ rest).toArray.toList.drop (off + us.length) = (vs.take off ++ us ++ vs.drop (off + us.length)) ++ rest := by
  rw [List.take_append_of_le_length (by omega), List.drop_append_of_le_length (by omega)]
  simp
 rw [hsp] at hst
 have hrow : A5 F bs H w (spl cs off xs) (vs.take off ++ us ++ vs.drop (off + us.length)) := by
  rw [spl, List.append_assoc, hxl]
  exact (hl.take off).append (hx.append (hl.drop _))
 have hlen : (spl cs off xs).length = cs.length := by simp [spl]; omega
 have hoe : B0 bs bs w (w.setRow b ((vs.take off ++ us ++ vs.drop (off + us.length)) ++ rest).toArray) id (.cells T cs false) (.cells T (spl cs off xs) false) := .inr ⟨T, _, rfl, hlen, rfl⟩
 have hlow := hh.low b (mGe hb)
 have hext := Ext.upd (w' := w.setRow b ((vs.take off ++ us ++ vs.drop (off + us.length)) ++ rest).toArray) hh.nodup ho hb (by simp) (fun k hk => setRow_other w b k _ hk) hoe
 refine ⟨_, hst, A7.upd hh ho hb (Ek w _ hlow.1) (by simp) (fun k hk => setRow_other w b k _ hk) hoe ?_, hext⟩
 refine ⟨_, rest, fr, setRow_heap w b _ _ T fr hcell, A5.ext hext _ _ hrow, fun j hj => hfr j ?_⟩
 have := hrow.length; omega
def Us (H : Hz) (k : Nat) (zs : List AVal) (p : AVal) : Option Hz :=
 match p with
 | .hsl k' id off len _ => match H[id]? with
   | some (.cells T cs false) => cond (Nat.beq k k') (cond (Nat.beq len 0) (some H) (cond ((Ia zs (len * k)).all AVal.one) (some (H.set id (.cells T (spl cs off (Ia zs (len * k))) false))) none)) none
   | _ => none
 | _ => none
theorem A0t {P : Program} {W0 w : World} {bs : List Nat} {H H' : Hz} (hh : A7 W0 F bs H w) {t e ty : TypeId} {k by' : Nat} (ht : En P t = some (e, k, by')) {zs : List AVal} (hz : Dn P e = some zs) {p : AVal} {cx : Value}
 (hx : Rep F bs H w p cx) (h : Us H k zs p = some H') :
 ∃ w', (Builtin.clear_ #[t] ty #[cx]).run P w = .ok (.tuple #[]) w' ∧ A7 W0 F bs H' w' ∧ Ext bs H w bs H' w' := by
 obtain ⟨hu, hk1, i, z, hi, hzz, hisz, hiby, hzsz⟩ := I8 ht
 subst hisz
 have hl : A5 F bs H w zs z.cells.toList := by
  unfold Dn at hz
  rw [hi] at hz; simp only [hzz] at hz
  exact Ie (fun v _ a ha => Rep.const 3 v a ha) hz
 have hzr : (zeroValue e).run P w = .ok z w := by simp [zeroValue, B9 w hi, hzz]
 cases p <;> simp only [Us] at h <;> try (cases h; done)
 case hsl k' id off len cap =>
 simp only [Rep] at hx
 obtain ⟨_, hx⟩ := hx
 unfold Bn at hx
 split at h
 · rename_i T cs ho
   rw [ho] at hx
   obtain ⟨hle, hx⟩ := hx
   obtain ⟨b, c, hb, rfl, hlc, hcap, _⟩ := hx (by simp)
   cases hk : Nat.beq i.size k' with
   | false => rw [hk] at h; cases h
   | true =>
     have hk := nBq hk
     subst hk
     simp only [Nat.beq_refl, cond_true] at h
     cases hln : Nat.beq len 0 with
     | true =>
       have := nBq hln
       subst this
       simp only [hln, cond_true, iS] at h
       subst h
       refine ⟨w, ?_, hh, Ext.refl _ _ _⟩
       simp [Builtin.clear_, A3 w hu]
     | false =>
       have hln' := Nat.ne_of_beq_eq_false hln
       rw [hln, cond_false] at h
       cases h3 : (Ia zs (len * i.size)).all AVal.one with
       | false => rw [h3] at h; cases h
       | true =>
         rw [h3, cond_true] at h
         injection h with h; subst h
         have hrow := Uw hl (by omega) (len * i.size)
         have hzl : (Ia zs (len * i.size)).length = len * i.size := by simp [Ia]
         obtain ⟨w', hr, h4, h5⟩ := Uj (P := P) hh ho hb hrow (by rw [hzl]; exact hle) h3
         refine ⟨w', ?_, h4, h5⟩
         obtain ⟨m, rfl⟩ : ∃ m, len = m + 1 := ⟨len - 1, by omega⟩
         have hzc : Builtin.zeroCells z.cells (m + 1) = (Array.range ((m + 1) * i.size)).map (z.cells[· % z.cells.size]!) := by
          simp only [Builtin.zeroCells, hzsz]
         simp only [Builtin.clear_]
         simp only [Array.toList_map, Array.toList_range] at hr
         simp [A3 w hu, hzr, hzc, hr]
 · cases h
theorem A1r {P : Program} {W0 w : World} {bs : List Nat} {H : Hz} (hh : A7 W0 F bs H w) {t e : TypeId} {k by' : Nat} (ht : En P t = some (e, k, by')) {zs : List AVal} (hz : Dn P e = some zs) {j j' : IntKind} {n : Int} (h0 : 0 ≤ n) (hn : n ≤ 1000000) (hby : by' ≤ 1000) :
 ∃ cv w' bs', (Instr.makeSlice t (.int j n) (.int j' n)).run P w = .ok cv w' ∧ Rep F bs' (H ++ [.cells e (Ia zs (n.toNat * k)) false]) w' (.hsl k H.length 0 n.toNat (some n.toNat)) cv ∧ A7 W0 F bs' (H ++ [.cells e (Ia zs (n.toNat * k)) false]) w' ∧ Ext bs H w bs' (H ++ [.cells e (Ia zs (n.toNat * k)) false]) w' := by
 obtain ⟨hu, hk1, i, z, hi, hzz, hisz, hiby, hzsz⟩ := I8 ht
 subst hisz; subst hiby
 have hsz : (sizeOf e).run P w = .ok i.size w := by simp [sizeOf, B9 w hi]
 have hl : A5 F bs H w zs z.cells.toList := by
  unfold Dn at hz
  rw [hi] at hz; simp only [hzz] at hz
  exact Ie (fun v _ a ha => Rep.const 3 v a ha) hz
 have hzr : (zeroValue e).run P w = .ok z w := by simp [zeroValue, B9 w hi, hzz]
 have start : ∃ z0 : Array Value, ((if n.toNat * i.size = 0 then pure #[] else do pure (← zeroValue e).cells : Sem (Array Value)).run P w = .ok z0 w) ∧ A5 F bs H w (Ia zs (n.toNat * i.size)) ((Array.range (n.toNat * i.size)).map (z0[· % z0.size]!)).toList := by
  by_cases h0 : n.toNat * i.size = 0
  · refine ⟨#[], by simp [h0], ?_⟩
    rw [h0]; simp [Ia, A5]
  · exact ⟨z.cells, by simp [h0, hzr], Uw hl (by omega) _⟩
 obtain ⟨z0, hz0, hrow⟩ := start
 obtain ⟨h1, h2, h3⟩ := L7 hh e hrow
 rw [Array.toArray_toList] at h1 h2 h3
 have hw : IntKind.i64.wrap n = n := by rw [IntKind.wrap_i64]; omega
 have hbn : ¬ ((i.bytes : Int) * n > 2 ^ 48) := by
  have : (i.bytes : Int) * n ≤ 1000 * 1000000 := Int.mul_le_mul (by omega) hn h0 (by omega)
  omega
 refine ⟨.slice (some ⟨w.heap.size, 0, none⟩) n.toNat n.toNat, w.alloc (.cells ((Array.range (n.toNat * i.size)).map (z0[· % z0.size]!)) e), _, ?_, ?_, h2, h3⟩
 · have hroom : ∀ m, (askRoom m).run P w = .ok () w := fun m => by unfold askRoom; split <;> rfl
   simp only [Instr.makeSlice, asInt, asIntOf, sRb, Sem.run_pure, A3 w hu, B9 w hi, rAo, hw]
   rw [if_neg (by
    simp only [Bool.or_eq_true, dTe]
    omega)]
   simp only [hroom, sRb, hsz, rAo]
   by_cases h00 : n.toNat * i.size = 0
   · rw [if_pos h00] at hz0 ⊢
     simp only [Sem.run_pure, Result.ok.injEq, and_true] at hz0
     subst hz0
     simp only [Sem.run_pure, rAo, newRow, run_newObj, sRb]
     rfl
   · rw [if_neg h00] at hz0 ⊢
     simp only [sRb, Sem.run_pure, rAo, hzr, Result.ok.injEq, and_true] at hz0
     subst hz0
     simp only [sRb, Sem.run_pure, rAo, hzr, newRow, run_newObj]
     rfl
 · simp only [Rep, Bn, List.getElem?_concat_length]
   refine ⟨⟨_, n.toNat, Nat.le_refl _, rfl⟩, by simp [Ia], fun _ => ⟨w.heap.size, n.toNat, by rw [← hh.len]; simp, rfl, Nat.le_refl _, fun c' h => by injection h, by simp⟩⟩
def Ox : List (Bz × Int) → Bz → Nat → Option (Nat × Int)
 | [], _, _ => none
 | (k', v) :: r, k, i => cond (decide (k = k')) (some (i, v)) (Ox r k (i + 1))
def Iu (es : List (Bz × Int)) (k : Bz) (v : Int) : List (Bz × Int) :=
 match Ox es k 0 with
 | some (i, _) => es.set i (k, v)
 | none => es ++ [(k, v)]
def Ln (es : List (Bz × Int)) (k : Bz) : Int :=
 match Ox es k 0 with
 | some (_, v) => v
 | none => 0
theorem Jd (k : Bz) : ∀ (es : List (Bz × Int)) (n i : Nat), Instr.findNow .string (.string ⟨k.toArray⟩) (Hh n es) i = some ((Ox es k i).map fun p => (p.1, .int .i64 p.2))
 | [], _, _ => rfl
 | (k', v) :: r, n, i => by
   simp only [Hh, Instr.findNow, Instr.sameNow, Ox]
   by_cases h : k = k'
   · subst h
     have h2 : ((⟨k.toArray⟩ : ByteArray) == ⟨k.toArray⟩) = true := by
      exact (MapKept.bytes_beq _ _).2 rfl
     rw [h2]
     simp
   · have h2 : ((⟨k.toArray⟩ : ByteArray) == ⟨k'.toArray⟩) = false := by
      refine Bool.eq_false_iff.2 fun e => ?_
      have e := (MapKept.bytes_beq _ _).1 e
      injection e with e
      exact h (by simpa using congrArg Array.toList e)
     rw [h2]
     simp only [h, decide_false, cond_false]
     exact Jd k r (n + 1) (i + 1)
theorem Ti (k : Bz) (v : Int) : ∀ (es : List (Bz × Int)) (n : Nat), Hh n (es ++ [(k, v)]) = Hh n es ++ [{ key := .string ⟨k.toArray⟩, val := .int .i64 v, born := n + es.length }]
 | [], n => rfl
 | (k', v') :: r, n => by
   simp only [List.cons_append, Hh, Ti k v r, lCo]
   rw [show n + 1 + r.length = n + (r.length + 1) by omega]
theorem Pi (k : Bz) (v : Int) : ∀ (es : List (Bz × Int)) (n i : Nat), (Hh n es).modify i (fun e => { e with key := .string ⟨k.toArray⟩, val := .int .i64 v }) = Hh n (es.set i (k, v))
 | [], _, _ => by simp [Hh]
 | (k', v') :: r, n, 0 => by simp [Hh]
 | (k', v') :: r, n, i + 1 => by simp [Hh, Pi k v r]
theorem Xc (k : Bz) : ∀ (es : List (Bz × Int)) (n : Nat) (p : Nat × Int) (m : Nat), Ox es k n = some p → n ≤ p.1 ∧ ((Hh m es)[p.1 - n]?).map (·.key) = some (.string ⟨k.toArray⟩)
 | [], _, _, _, h => by simp [Ox] at h
 | (k', v) :: r, n, p, m, h => by
   simp only [Ox] at h
   by_cases hk : k = k'
   · subst hk
     simp at h
     subst h
     simp [Hh]
   · simp only [hk, decide_false, cond_false] at h
     obtain ⟨h1, h2⟩ := Xc k r (n + 1) p (m + 1) h
     refine ⟨by omega, ?_⟩
     rw [show p.1 - n = (p.1 - (n + 1)) + 1 by omega]
     simp only [Hh, List.getElem?_cons_succ]
     exact h2
def Nu (P : Program) (t : TypeId) : Bool :=
 match P.underlying t with
 | some (.map k e) => match P.underlying k with
   | some .string => match P.info? e with
     | some i => match i.zero with
       | some (.int .i64 0) => true
       | _ => false
     | none => false
   | _ => false
 | _ => false
section
variable {P : Program} {W0 w : World} {bs : List Nat} {H H' : Hz}
theorem A3w (hh : A7 W0 F bs H w) {t : TypeId} :
 ∃ cv w' bs', (Instr.makeMap t none).run P w = .ok cv w' ∧ Rep F bs' (H ++ [.mp []]) w' (.mref H.length) cv ∧ A7 W0 F bs' (H ++ [.mp []]) w' ∧ Ext bs H w bs' (H ++ [.mp []]) w' := by
 have he := Ext.alloc hh.len (fun b hb => (hh.low b hb).2) (.map #[] 0) (.mp [])
 refine ⟨.map (some w.heap.size), w.alloc (.map #[] 0), _, rfl, ?_, hh.alloc _ _ (heap_alloc_new w _), he⟩
 simp only [Rep, Fb, List.getElem?_concat_length]
 exact ⟨⟨_, rfl⟩, w.heap.size, by rw [← hh.len]; simp, rfl⟩
def aupd (H : Hz) (m k v : AVal) : Option Hz :=
 match m with
 | .mref id => match H[id]? with
   | some (.mp es) => match k with
     | .str k => match v with
       | .int .i64 v => some (H.set id (.mp (Iu es k v)))
       | _ => none
     | _ => none
   | _ => none
 | _ => none
def aget (H : Hz) (m k : AVal) : Option AVal :=
 match m with
 | .mref id => match H[id]? with
   | some (.mp es) => match k with
     | .str k => some (.int .i64 (Ln es k))
     | _ => none
   | _ => none
 | _ => none
theorem Ro {t : TypeId} (h : Nu P t = true) : ∃ k e, P.underlying t = some (.map k e) ∧ P.underlying k = some .string ∧ ∀ w : World, (zeroValue e).run P w = .ok (.int .i64 0) w := by
 unfold Nu at h
 split at h
 · rename_i k e ht
   split at h
   · rename_i hk
     split at h
     · rename_i i hi
       split at h
       · rename_i hz
         exact ⟨k, e, ht, hk, fun w => by simp [zeroValue, B9 w hi, hz]⟩
       · cases h
     · cases h
   · cases h
 · cases h
theorem aupd_ok (hh : A7 W0 F bs H w) {t : TypeId} (ht : Nu P t = true) {m k v : AVal} {cm ck cv : Value} (hm : Rep F bs H w m cm) (hk : Rep F bs H w k ck) (hv : Rep F bs H w v cv) (h : aupd H m k v = some H') :
 ∃ w', (Instr.mapUpdate t cm ck cv).run P w = .ok () w' ∧ A7 W0 F bs H' w' ∧ Ext bs H w bs H' w' := by
 obtain ⟨kt, et, h1, h2, _⟩ := Ro ht
 unfold aupd at h
 split at h
 · rename_i id
   split at h
   · rename_i es ho
     split at h
     · rename_i kk
       split at h
       · rename_i vv
         injection h with h
         subst h
         simp only [Rep] at hk hv hm
         subst hk; subst hv
         obtain ⟨_, hm⟩ := hm
         unfold Fb at hm
         rw [ho] at hm
         obtain ⟨b, hb, rfl⟩ := hm
         have hobj := hh.obj id _ b ho hb
         simp only [Gm] at hobj
         have hlow := hh.low b (mGe hb)
         have hkey : MapKept.IsKey .string (.string ⟨kk.toArray⟩) := by simp [MapKept.IsKey]
         have hfind := MapKept.run_findKey (P := P) (w := w) (l := (Hh 0 es).toArray.toList) h2 (by
          have := Jd kk es 0 0
          simpa using this)
         have hset : ∀ (arr : Array MapEntry) (n : Nat), arr = (Hh 0 (Iu es kk vv)).toArray → n = (Iu es kk vv).length → (setObj b (.map arr n)).run P w = .ok () { w with heap := w.heap.setIfInBounds b (.map (Hh 0 (Iu es kk vv)).toArray (Iu es kk vv).length) } := by
          rintro arr n rfl rfl
          exact MapKept.run_setObj_map _ hobj
         have hoe : B0 bs bs w { w with heap := w.heap.setIfInBounds b (.map (Hh 0 (Iu es kk vv)).toArray (Iu es kk vv).length) } id (.mp es) (.mp (Iu es kk vv)) := .inr ⟨_, rfl, rfl⟩
         have hother : ∀ j, j ≠ b → (w.heap.setIfInBounds b (Obj.map (Hh 0 (Iu es kk vv)).toArray (Iu es kk vv).length))[j]? = w.heap[j]? := fun j hj => by
          simp [Ne.symm hj]
         have hext := Ext.upd (w' := { w with heap := w.heap.setIfInBounds b (.map (Hh 0 (Iu es kk vv)).toArray (Iu es kk vv).length) }) hh.nodup ho hb (by simp) hother hoe
         refine ⟨{ w with heap := w.heap.setIfInBounds b (.map (Hh 0 (Iu es kk vv)).toArray (Iu es kk vv).length) }, ?_, A7.upd hh ho hb (O9 w _ hlow.1) (by simp) hother hoe ?_, hext⟩
         · simp only [Instr.mapUpdate, sRb, A3 w h1, rAo, MapKept.run_getObj_map hobj, MapKept.run_checkKey h2 hkey, hfind]
           cases hf : Ox es kk 0 with
           | none =>
             simp only [Option.map_none]
             refine hset _ _ ?_ ?_
             · apply Array.ext'
               simp only [Iu, hf, Ti, Array.toList_push]
               simp
             · simp [Iu, hf]
           | some p =>
             obtain ⟨_, hg⟩ := Xc kk es 0 p 0 hf
             simp only [Option.map_some]
             have hkey2 : (((Hh 0 es).toArray[p.1]?).map (·.key)).getD (.string ⟨kk.toArray⟩) = .string ⟨kk.toArray⟩ := by
              simp only [Nat.sub_zero] at hg
              simp only [List.getElem?_toArray, hg, Option.getD_some]
             simp only [sRb, hkey2, MapKept.run_keyThatStays hkey, rAo]
             refine hset _ _ ?_ ?_
             · apply Array.ext'
               simp only [Iu, hf, Array.toList_modify]
               exact Pi kk vv es 0 p.1
             · simp [Iu, hf]
         · simp only [Gm]
           simp [hlow.2]
       · cases h
     · cases h
   · cases h
 · cases h
theorem aget_ok (hh : A7 W0 F bs H w) {t : TypeId} (ht : Nu P t = true) {m k v : AVal} {cm ck : Value} (hm : Rep F bs H w m cm) (hk : Rep F bs H w k ck) (h : aget H m k = some v) :
 ∃ cv, (Instr.lookup t cm ck false).run P w = .ok cv w ∧ Rep F bs H w v cv := by
 obtain ⟨kt, et, h1, h2, h3⟩ := Ro ht
 unfold aget at h
 split at h
 · rename_i id
   split at h
   · rename_i es ho
     split at h
     · rename_i kk
       injection h with h
       subst h
       simp only [Rep] at hk hm
       subst hk
       obtain ⟨_, hm⟩ := hm
       unfold Fb at hm
       rw [ho] at hm
       obtain ⟨b, hb, rfl⟩ := hm
       have hobj := hh.obj id _ b ho hb
       simp only [Gm] at hobj
       have hkey : MapKept.IsKey .string (.string ⟨kk.toArray⟩) := by simp [MapKept.IsKey]
       have hfind := MapKept.run_findKey (P := P) (w := w) (l := (Hh 0 es).toArray.toList) h2 (by
        have := Jd kk es 0 0
        simpa using this)
       refine ⟨.int .i64 (Ln es kk), ?_, by simp only [Rep]⟩
       simp only [Instr.lookup, sRb, A3 w h1, rAo, MapKept.run_getObj_map hobj, Sem.run_pure, MapKept.run_checkKey h2 hkey, hfind]
       cases hf : Ox es kk 0 with
       | none =>
         simp [Ln, hf, h3]
       | some p =>
         simp [Ln, hf]
     · cases h
   · cases h
 · cases h
end
def u8c (l : Bz) : List AVal := l.map fun b => .int .u8 (b.toNat : Nat)
theorem Ul {F : Nat → Prop} {bs : List Nat} {H : Hz} {w : World} (l : Bz) : A5 F bs H w (u8c l) (Lib.strCells ⟨l.toArray⟩) := by
 induction l with
 | nil => simp [u8c, Lib.strCells, A5]
 | cons b l ih =>
   simp only [u8c, Lib.strCells, List.map_cons, A5] at ih ⊢
   exact ⟨_, _, rfl, by simp only [Rep], ih⟩
def Yw (P : Program) (t : TypeId) : Option TypeId :=
 match En P t with
 | some (e, 1, 1) => match P.info? e with
   | some i => match i.zero with
     | some (.int .u8 0) => some e
     | _ => none
   | none => none
 | _ => none
def Xh (e : Nat) (H : Hz) (x : AVal) (l : Bz) : Option (AVal × Hz × List (Int × Int)) :=
 cond (Nat.beq l.length 0) none (match x with
  | .nilSl => some (.hsl 1 H.length 0 l.length none, H ++ [.cells e (u8c l) true], [((l.length : Nat), C9)])
  | .hsl k' id off len _ => cond (Nat.beq 1 k') (match H[id]? with
    | some (.cells T cs true) => cond (Nat.beq T e && Nat.beq off 0 && Nat.beq len cs.length) (some (.hsl 1 id 0 (len + l.length) none, H.set id (.cells T (cs ++ u8c l) true), [((len + l.length : Nat), C9)])) none
    | _ => none) none
  | _ => none)
theorem A3g {P : Program} {W0 w : World} {bs : List Nat} {H H' : Hz} (hh : A7 W0 F bs H w) {t u ty e : TypeId} (ht : Yw P t = some e) (hu : P.underlying u = some .string) {x v : AVal} {cx : Value} {l : Bz} {side : List (Int × Int)}
 (hx : Rep F bs H w x cx) (h : Xh e H x l = some (v, H', side)) (hs : Af side) :
 ∃ cv w' bs', (Builtin.append_ #[t, u] ty #[cx, .string ⟨l.toArray⟩]).run P w = .ok cv w' ∧ Rep F bs' H' w' v cv ∧ A7 W0 F bs' H' w' ∧ Ext bs H w bs' H' w' := by
 unfold Yw at ht
 split at ht
 · rename_i e' hte
   split at ht
   · rename_i i hi
     split at ht
     · rename_i hz0
       injection ht with ht
       subst ht
       obtain ⟨hts, hk1, i', z, hi', hz, hisz, hiby, hzsz⟩ := I8 hte
       have hTe := Rx hte
       rw [hi] at hi'
       injection hi' with hi'
       subst hi'
       have hsz : (ByteArray.mk l.toArray).size = l.length := by simp [ByteArray.size]
       have hsl : (Lib.strCells ⟨l.toArray⟩).length = l.length := by rw [Lib.strCells_length, hsz]
       unfold Xh at h
       cases hl0 : Nat.beq l.length 0 with
       | true => rw [hl0] at h; cases h
       | false =>
         rw [hl0, cond_false] at h
         have hpos : 0 < l.length := Nat.pos_of_ne_zero (fun e => by rw [e] at hl0; cases hl0)
         have hzr : ∀ n, (Builtin.zeroCells (Value.int .u8 0).cells n).size = n := fun n => by
          rw [Hi]; exact Nat.mul_one n
         split at h
         ·
          simp only [Rep] at hx
          subst hx
          simp only [iS, iP] at h
          obtain ⟨rfl, rfl, rfl⟩ := h
          have hr1 := Ff hs.1
          have hr := run_append_nil_string (P := P) w t u ty e' i (.int .u8 0) hts hu hi hz0 ⟨l.toArray⟩ (by omega) (by omega) (by rw [hiby]; omega)
          rw [hsz] at hr
          have hg := grownCap_ge w l.length 0 e'
          have hgm := grownCap_le_maxLen w l.length 0 e' (by simp only [maxLen]; omega)
          obtain ⟨hdr, hde⟩ := hh.drew
          obtain ⟨h1, h2, h3⟩ := S7 (W0 := W0) hdr e' 1 l.length (grownCap w l.length 0 e') hTe (Builtin.zeroCells (Value.int .u8 0).cells (grownCap w l.length 0 e' - l.length)).toList (Ul (F := F) (bs := bs) (H := H) (w := w.drew) l) (by rw [hsl, Nat.mul_one]) (by
           simp only [Array.length_toList, hzr, hsl]; omega) hg hgm
          refine ⟨_, _, _, ?_, h1, h2, hde.trans h3⟩
          rw [hr]
          have e1 : (ByteArray.mk l.toArray).data.map (fun b => Value.int .u8 b.toNat) ++ Builtin.zeroCells (Value.int .u8 0).cells (grownCap w l.length 0 e' - l.length) = (Lib.strCells ⟨l.toArray⟩ ++ (Builtin.zeroCells (Value.int .u8 0).cells (grownCap w l.length 0 e' - l.length)).toList).toArray := by
           apply Array.ext'; simp [Lib.strCells]
          rw [e1]
          rfl
         ·
          rename_i k' id off len cap
          cases hkk : Nat.beq 1 k' with
          | false => rw [hkk] at h; cases h
          | true =>
            rw [hkk, cond_true] at h
            have hk' := nBq hkk
            subst hk'
            simp only [Rep] at hx
            obtain ⟨_, hx⟩ := hx
            unfold Bn at hx
            split at h
            · rename_i T cs ho
              cases hc : (Nat.beq T e' && Nat.beq off 0 && Nat.beq len cs.length) with
              | false => rw [hc] at h; cases h
              | true =>
                rw [hc, cond_true] at h
                simp only [iS, iP] at h
                obtain ⟨rfl, rfl, rfl⟩ := h
                simp only [bAt] at hc
                have hTq := nBq hc.1.1
                have hoff := nBq hc.1.2
                have hln := nBq hc.2
                subst hTq; subst hoff
                have hr1 := Ff hs.1
                rw [ho] at hx
                obtain ⟨_, hx⟩ := hx
                obtain ⟨bb, c, hb, rfl, hlc, _, hop⟩ := hx (fun _ => ⟨rfl, by rw [Nat.mul_one]; exact hln⟩)
                obtain ⟨hcm, hcb⟩ := hop rfl
                obtain ⟨vs, rest, fr, hcell, hvl, hfr⟩ := hh.obj id _ bb ho hb
                obtain rfl := hfr hTe
                rw [Hj hTe] at hcell
                have hvlen := hvl.length
                have hbsz : Bv w bb = (vs ++ rest).length := by unfold Bv; rw [hcell]; simp
                have hlt2 : cs.length < (cs ++ u8c l).length := by
                 rw [lAp]
                 have : (u8c l).length = l.length := by simp [u8c]
                 omega
                by_cases hroom : len + l.length ≤ c
                · have hfit : len + l.length ≤ (vs ++ rest).length := by rw [← hbsz, ← hcb]; omega
                  have hrun := Lib.run_append_room_string (P := P) w t u ty T i hts hu hi hisz bb len c (vs ++ rest).toArray hcell ⟨l.toArray⟩ (by rw [hsz]; exact hroom) (by rw [hsz]; simpa using hfit)
                  rw [hsz] at hrun
                  have hrow : (vs ++ rest).toArray.toList.take len ++ Lib.strCells ⟨l.toArray⟩ ++ (vs ++ rest).toArray.toList.drop (len + l.length) = (vs ++ Lib.strCells ⟨l.toArray⟩) ++ rest.drop l.length := by
                   rw [show len = vs.length by omega, List.take_left, List.drop_append]
                   rw [List.drop_of_length_le (by omega), show vs.length + l.length - vs.length = l.length by omega]
                   simp
                  rw [hrow] at hrun
                  have hlow := hh.low bb (mGe hb)
                  have hoe : B0 bs bs w (w.setRow bb ((vs ++ Lib.strCells ⟨l.toArray⟩) ++ rest.drop l.length).toArray) id (.cells T cs true) (.cells T (cs ++ u8c l) true) := .inr ⟨T, _, rfl, .inl hlt2⟩
                  have hext := Ext.upd (w' := w.setRow bb ((vs ++ Lib.strCells ⟨l.toArray⟩) ++ rest.drop l.length).toArray) hh.nodup ho hb (by simp) (fun k hk => setRow_other w bb k _ hk) hoe
                  refine ⟨_, _, bs, hrun, ?_, A7.upd hh ho hb (Ek w _ hlow.1) (by simp) (fun k hk => setRow_other w bb k _ hk) hoe ⟨vs ++ Lib.strCells ⟨l.toArray⟩, rest.drop l.length, (0, 0), by rw [Hj hTe]; exact setRow_heap w bb _ _ T (0, 0) hcell, A5.ext hext _ _ (hvl.append (Ul l)), fun _ => rfl⟩, hext⟩
                  simp only [Rep, Bn]
                  have hid := (List.getElem?_eq_some_iff.1 ho).1
                  rw [List.getElem?_set_self hid]
                  have hul : (u8c l).length = l.length := by simp [u8c]
                  refine ⟨⟨_, c, hroom, rfl⟩, ?_, fun _ => ⟨bb, c, hb, rfl, hroom, by simp, fun _ => ⟨hcm, ?_⟩⟩⟩
                  · simp only [lAp]; omega
                  · unfold Bv; rw [setRow_heap w bb _ _ T (0, 0) hcell]
                    rw [hcb, hbsz]; simp only [List.size_toArray, lAp, List.length_drop, hsl]
                    simp only [lAp] at hfit; omega
                · have hg := grownCap_ge w (len + l.length) c T
                  have hgm := grownCap_le_maxLen w (len + l.length) c T (by simp only [maxLen]; omega)
                  have hrun := Lib.run_append_grow_string (P := P) w t u ty T i (.int .u8 0) hts hu hi hz0 ⟨bb, 0, none⟩ len c vs (by rw [hisz]; omega) (fun j v hj => by
                   rw [Addr.add_at, cell_of_row w bb _ _ T (0, 0) hcell]
                   have hjl := (List.getElem?_eq_some_iff.1 hj).1
                   simp only [Nat.zero_add, List.getElem?_toArray]
                   rw [List.getElem?_append_left hjl]; exact hj) ⟨l.toArray⟩ (by rw [hsz]; omega) (by rw [hsz]; omega) (by rw [hiby, hsz]; exact growslice_fits (by omega) (by omega))
                  rw [hsz] at hrun
                  obtain ⟨hdr, hde⟩ := hh.drew
                  have hmv := U7 (W0 := W0) hdr hTe ho hlt2 (vs ++ Lib.strCells ⟨l.toArray⟩) (Builtin.zeroCells (Value.int .u8 0).cells (grownCap w (len + l.length) c T - (len + l.length))).toList (A5.ext hde _ _ (hvl.append (Ul l)))
                  have harr : (vs.toArray ++ (Lib.strCells ⟨l.toArray⟩).toArray ++ Builtin.zeroCells (Value.int .u8 0).cells (grownCap w (len + l.length) c T - (len + l.length))) = ((vs ++ Lib.strCells ⟨l.toArray⟩) ++ (Builtin.zeroCells (Value.int .u8 0).cells (grownCap w (len + l.length) c T - (len + l.length))).toList).toArray := by
                   apply Array.ext'; simp
                  rw [harr] at hrun
                  refine ⟨_, _, _, hrun, ?_, hmv.1, hde.trans hmv.2⟩
                  simp only [Rep, Bn]
                  have hid := (List.getElem?_eq_some_iff.1 ho).1
                  rw [List.getElem?_set_self hid]
                  have hul : (u8c l).length = l.length := by simp [u8c]
                  refine ⟨⟨_, _, hg, rfl⟩, ?_, fun _ => ⟨w.heap.size, _, ?_, rfl, hg, by simp, fun _ => ⟨hgm, ?_⟩⟩⟩
                  · simp only [lAp]; omega
                  · exact List.getElem?_set_self (by rw [hh.len]; exact hid)
                  · unfold Bv
                    have : (w.drew.alloc (.cells ((vs ++ Lib.strCells ⟨l.toArray⟩) ++ (Builtin.zeroCells (Value.int .u8 0).cells (grownCap w (len + l.length) c T - (len + l.length))).toList).toArray T)).heap[w.heap.size]? = some (.cells ((vs ++ Lib.strCells ⟨l.toArray⟩) ++ (Builtin.zeroCells (Value.int .u8 0).cells (grownCap w (len + l.length) c T - (len + l.length))).toList).toArray T) := heap_alloc_new w.drew _
                    rw [this]
                    simp only [List.size_toArray, lAp, Array.length_toList, hzr, hsl]
                    omega
            · cases h
         · cases h
     · cases ht
   · cases ht
 · cases ht
inductive AConv where
 | int (k : IntKind)
 | same
 | b2s
 | s2b (e : TypeId)
 | i2s
inductive AOp where
 | move (x : AOpd)
 | pick (c a b : AOpd)
 | alloc (T : TypeId) (zs : List AVal)
 | box (T : TypeId) (x : AOpd)
 | build (zs : List AVal) (ps : List (Nat × Nat × AOpd))
 | bslice (e k len : Nat) (zs : List AVal) (ps : List (Nat × Nat × AOpd))
 | load (n : Nat) (agg : Bool) (a : AOpd)
 | store (n : Nat) (a x : AOpd)
 | nilCheck (x : AOpd)
 | bin (op : BinOp) (d : Option TypeDesc) (x y : AOpd)
 | un (op : UnOp) (x : AOpd)
 | conv (c : AConv) (x : AOpd)
 | fieldAddr (off : Nat) (x : AOpd)
 | idxSl (k : Nat) (x i : AOpd)
 | idxArr (n k : Nat) (x i : AOpd)
 | idxStr (x i : AOpd)
 | cutStr (x : AOpd) (lo hi : Option AOpd)
 | cutSl (k : Nat) (x : AOpd) (lo hi : Option AOpd)
 | range (x : AOpd)
 | next (x : AOpd)
 | extract (x : AOpd) (i : Nat)
 | mkfn (f : FuncId) (first cap : List AOpd)
 | call (f : AOpd) (args : List AOpd)
 | append (e k b : Nat) (x y : AOpd)
 | len (str : Bool) (x : AOpd)
 | iface (T : TypeId) (x : AOpd)
 | mm (big : Bool) (x y : AOpd)
 | eqs (neg : Bool) (e : EP) (x y : AOpd)
 | field (n : Nat) (agg : Bool) (off : Nat) (x : AOpd)
 | idxVal (m n : Nat) (agg : Bool) (x i : AOpd)
 | cutArr (n k : Nat) (x : AOpd) (hi : Option AOpd)
 | clear (k : Nat) (zs : List AVal) (x : AOpd)
 | mkSl (e k : Nat) (zs : List AVal) (x y : AOpd)
 | mkMap
 | mapUpd (m k v : AOpd)
 | mapGet (m k : AOpd)
 | pan (x : AOpd)
 | tas (T : TypeId) (x : AOpd)
 | appS (e : Nat) (x y : AOpd)
 | cut0 (x : AOpd)
def oev (G : List (Nat × AVal)) (s : St) : Option AOpd → Option (Option Int)
 | none => some none
 | some x => match ev G s x with
   | some (.int _ n) => some (some n)
   | _ => none
def Q5 (G : List (Nat × AVal)) (s : St) : List (Nat × Nat × AOpd) → Option (List (Nat × Nat × AVal))
 | [] => some []
 | (o, n, x) :: r => match ev G s x with
   | some v => match Q5 G s r with
     | some l => some ((o, n, v) :: l)
     | none => none
   | none => none
def Jx (H : Hz) : Option AVal → Option ARes
 | some v => some (.val v H [])
 | none => none
def Vm (H : Hz) : Option AV → Option ARes
 | some (v, side) => some (.val v H side)
 | none => none
def Yb (H : Hz) (k : IntKind) : AVal → Option ARes
 | .int _ n => some (.val (.int k (k.wrap n)) H [])
 | _ => none
def Ym (H : Hz) : AVal → Option ARes
 | .str l => some (.val (.str l) H [])
 | _ => none
def A35 (H : Hz) (e : TypeId) : AVal → Option ARes
 | .str l => some (.val (.hsl 1 H.length 0 l.length none) (H ++ [.cells e (l.map fun b => .int .u8 (b.toNat : Nat)) false]) [])
 | _ => none
def Xz (H : Hz) : AVal → Option ARes
 | .int _ n => some (.val (.str (Utf8.encode n).data.toList) H [])
 | _ => none
def Lt (H : Hz) (c : AConv) (x : AVal) : Option ARes :=
 match c with
 | .int k => Yb H k x
 | .same => Ym H x
 | .b2s => Jx H (ab2s H x)
 | .s2b e => A35 H e x
 | .i2s => Xz H x
def acut0 : AVal → Option AVal
 | .nilSl => some .nilSl
 | .emp => some .emp
 | .row _ (_ :: _) => some .emp
 | .hsl _ _ _ _ _ => some .emp
 | _ => none
def aop (G : List (Nat × AVal)) (s : St) : AOp → Option ARes
 | .move x => Jx s.H (ev G s x)
 | .pick c a b => match ev G s c with
   | some (.bool t) => Jx s.H (cond t (ev G s a) (ev G s b))
   | _ => none
 | .alloc T zs => some (.val (.ptr s.H.length 0) (s.H ++ [.cells T zs false]) [])
 | .box T x => match ev G s x with
   | some v => some (.val (.ptr s.H.length 0) (s.H ++ [.cells T v.cells false]) [])
   | none => none
 | .build zs ps => match Q5 G s ps with
   | some qs => match Pe zs qs with
     | some r => some (.val (.agg r) s.H [])
     | none => none
   | none => none
 | .bslice e k len zs ps => match Q5 G s ps with
   | some qs => match Pe (Ia zs (len * k)) qs with
     | some r => some (.val (.hsl k s.H.length 0 len (some len)) (s.H ++ [.cells e r false]) [])
     | none => none
   | none => none
 | .load n agg a => match ev G s a with
   | some p => Jx s.H (Hy n agg s.H p)
   | none => none
 | .store n a x => match ev G s a with
   | some p => match ev G s x with
     | some v => match Lu n s.H p v with
       | some H' => some (.skip H')
       | none => none
     | none => none
   | none => none
 | .nilCheck x => match ev G s x with
   | some p => Jx s.H (anil s.H p)
   | none => none
 | .bin op d x y => match ev G s x with
   | some a => match ev G s y with
     | some b => Vm s.H (Ws op d a b)
     | none => none
   | none => none
 | .un op x => match ev G s x with
   | some a => Jx s.H (aun op a)
   | none => none
 | .conv c x => match ev G s x with
   | some a => Lt s.H c a
   | none => none
 | .fieldAddr off x => match ev G s x with
   | some p => Jx s.H (V1 s.H off p)
   | none => none
 | .idxSl k x i => match ev G s x with
   | some a => match ev G s i with
     | some (.int _ n) => match a with
       | .row k' es => cond (Nat.beq k k' && Nat.ble 1 k) (some (.val (.eptr (es.getD n.toNat .nilIf) 0) s.H [(0, n), (n + 1, (es.length : Nat))])) none
       | .hsl k' id off len _ => cond (Nat.beq k k' && Gv s.H id) (some (.val (.ptr id (off + n.toNat * k)) s.H [(0, n), (n + 1, (len : Nat))])) (cond (Nat.beq k k' && (Nat.beq off 0 && J3 s.H id (len * k))) (some (.val (.optr id (n.toNat * k) (len * k)) s.H [(0, n), (n + 1, (len : Nat))])) none)
       | _ => none
     | _ => none
   | none => none
 | .idxArr m k x i => match ev G s x with
   | some a => match ev G s i with
     | some (.int _ n) => match V1 s.H (n.toNat * k) a with
       | some q => some (.val q s.H [(0, n), (n + 1, (m : Nat))])
       | none => none
     | _ => none
   | none => none
 | .idxStr x i => match ev G s x with
   | some (.str l) => match ev G s i with
     | some (.int _ n) => some (.val (.int .u8 (l.getD n.toNat 0).toNat) s.H [(0, n), (n + 1, (l.length : Nat))])
     | _ => none
   | _ => none
 | .cutStr x lo hi => match ev G s x with
   | some (.str l) => match oev G s lo with
     | some a => match oev G s hi with
       | some b => some (.val (Ar l a b).1 s.H (Ar l a b).2)
       | none => none
     | none => none
   | _ => none
 | .cutSl k x lo hi => match ev G s x with
   | some (.row k' es) => match oev G s lo with
     | some a => match oev G s hi with
       | some b => cond (Nat.beq k k') (some (.val (Au k es a b).1 s.H (Au k es a b).2)) none
       | none => none
     | none => none
   | some (.hsl k' id off len cap) => match oev G s lo with
     | some a => match oev G s hi with
       | some b => cond (Nat.beq k k') (Vm s.H (Qa s.H k id off len cap a b)) none
       | none => none
     | none => none
   | _ => none
 | .range x => match ev G s x with
   | some (.str l) => some (.val (.ptr s.H.length 0) (s.H ++ [.iter l 0]) [])
   | _ => none
 | .next x => match ev G s x with
   | some p => match Wl s.H p with
     | some (v, H') => some (.val v H' [])
     | none => none
   | none => none
 | .extract x i => match ev G s x with
   | some t => Jx s.H (Rm i t)
   | none => none
 | .mkfn f first cap => match evs G s first with
   | some a => match evs G s cap with
     | some c => some (.val (.fn f a c) s.H [])
     | none => none
   | none => none
 | .call f args => match ev G s f with
   | some (.fn g first cap) => match evs G s args with
     | some l => some (.call g (first ++ l ++ cap))
     | none => none
   | _ => none
 | .append e k b x y => match ev G s x with
   | some a => match ev G s y with
     | some c => match Qj e k b s.H a c with
       | some (v, H', side) => some (.val v H' side)
       | none => none
     | none => none
   | none => none
 | .len st x => match ev G s x with
   | some (.str l) => cond st (some (.val (.int .i64 l.length) s.H [])) none
   | some a => cond st none (match A0w a with
     | some n => some (.val (.int .i64 n) s.H [])
     | none => none)
   | none => none
 | .iface T x => match ev G s x with
   | some a => some (.val (.iface T a) s.H [])
   | none => none
 | .mm big x y => match ev G s x with
   | some (.int k a) => match ev G s y with
     | some (.int _ b) => some (.val (.int k (cond (cond big (decide (a < b)) (decide (b < a))) b a)) s.H [])
     | _ => none
   | _ => none
 | .eqs neg e x y => match ev G s x with
   | some a => match ev G s y with
     | some b => match aeq e a b with
       | some r => some (.val (.bool (cond neg (not r) r)) s.H [])
       | none => none
     | none => none
   | none => none
 | .field n agg off x => match ev G s x with
   | some a => Jx s.H (H9 n agg off a)
   | none => none
 | .idxVal m n agg x i => match ev G s x with
   | some a => match ev G s i with
     | some (.int _ j) => match H9 n agg (j.toNat * n) a with
       | some v => some (.val v s.H [(0, j), (j + 1, (m : Nat))])
       | none => none
     | _ => none
   | none => none
 | .cutArr n k x hi => match ev G s x with
   | some p => match oev G s hi with
     | some b => Vm s.H (Qb s.H n k b p)
     | none => none
   | none => none
 | .clear k zs x => match ev G s x with
   | some p => match Us s.H k zs p with
     | some H' => some (.val (.tup []) H' [])
     | none => none
   | none => none
 | .mkSl e k zs x y => match ev G s x with
   | some (.int _ n) => match ev G s y with
     | some (.int _ m) => some (.val (.hsl k s.H.length 0 n.toNat (some n.toNat)) (s.H ++ [.cells e (Ia zs (n.toNat * k)) false]) [(0, n), (n, 1000000), (n, m), (m, n)])
     | _ => none
   | _ => none
 | .mkMap => some (.val (.mref s.H.length) (s.H ++ [.mp []]) [])
 | .mapUpd m k v => match ev G s m with
   | some m => match ev G s k with
     | some k => match ev G s v with
       | some v => match aupd s.H m k v with
         | some H' => some (.skip H')
         | none => none
       | none => none
     | none => none
   | none => none
 | .mapGet m k => match ev G s m with
   | some m => match ev G s k with
     | some k => Jx s.H (aget s.H m k)
     | none => none
   | none => none
 | .pan _ => none
 | .appS e x y => match ev G s x with
   | some a => match ev G s y with
     | some (.str l) => match Xh e s.H a l with
       | some (v, H', side) => some (.val v H' side)
       | none => none
     | _ => none
   | none => none
 | .cut0 x => match ev G s x with
   | some a => Jx s.H (acut0 a)
   | none => none
 | .tas T x => match ev G s x with
   | some (.iface U u) => cond (Nat.beq U T) (some (.val (.tup [u, .bool true]) s.H [])) none
   | _ => none
def Io : Option Operand → Option (Option AOpd)
 | none => some none
 | some x => (Aa x).map some
def Hl (place : Nat → Option (Nat × Nat)) : List (Nat × Operand) → Option (List (Nat × Nat × AOpd))
 | [] => some []
 | (i, x) :: r => match place i with
   | some (o, n) => match Aa x with
     | some y => match Hl place r with
       | some l => some ((o, n, y) :: l)
       | none => none
     | none => none
   | none => none
def A3s (P : Program) (t : TypeId) : Bool :=
 match P.underlying t with
 | some (.struct fs) => (fs.toList.mapM fun f => (P.info? f.type).map fun i => (f.offset, i.size)).isSome
 | some (.array _ e) => (P.info? e).isSome
 | _ => false
def Vj : Operand → Bool
 | .const _ => true
 | _ => false
def eqK (P : Program) (t : TypeId) (y : Operand) : Option TypeDesc :=
 match P.underlying t with
 | some .bool => some .bool
 | some (.pointer e) => some (.pointer e)
 | some (.slice e) => some (.slice e)
 | some (.func a b c) => some (.func a b c)
 | some (.interface m) => cond (Vj y) (some (.interface m)) none
 | _ => none
def Qp (P : Program) (src dst : TypeId) : Option AConv :=
 match P.underlying src, P.underlying dst with
 | some (.int _), some (.int k) => some (.int k)
 | some (.int _), some .string => some .i2s
 | some .string, some .string => some .same
 | some .string, some (.slice e) => match P.underlying e with
   | some (.int .u8) => some (.s2b e)
   | _ => none
 | some (.slice e), some .string => match P.underlying e with
   | some (.int .u8) => some .b2s
   | _ => none
 | _, _ => none
def eqsOf (P : Program) (op : BinOp) (t : TypeId) : Option (Bool × EP) :=
 match isSA P t with
 | true => cond (P.eqGuardType P.depth t) none (match Qh P 100 t with
   | some e => match op with
     | .eql => some (false, e)
     | .neq => some (true, e)
     | _ => none
   | none => none)
 | false => none
def Ah (P : Program) (o : Op) : Option AOp :=
 match o with
 | .move x | .assign x => (Aa x).map .move
 | .pick c a b => do some (.pick (← Aa c) (← Aa a) (← Aa b))
 | .alloc T => do some (.alloc T (← Dn P T))
 | .box T x => do some (.box T (← Aa x))
 | .build t ps => do
   if A3s P t then some (.build (← Dn P t) (← Hl (N9 P t) ps.toList)) else none
 | .buildSlice t len ps => do
   let (e, k, _) ← En P t
   if len * k ≤ 16777216 then some (.bslice e k len (← Dn P e) (← Hl (fun i => some (i * k, k)) ps.toList)) else none
 | .load t a => do
   let (n, agg) ← L2 P t
   some (.load n agg (← Aa a))
 | .store t a x => do
   let (n, _) ← L2 P t
   some (.store n (← Aa a) (← Aa x))
 | .nilCheck x => do some (.nilCheck (← Aa x))
 | .binOp op t x y _ =>
   match eqsOf P op t with
   | some (neg, e) => do some (.eqs neg e (← Aa x) (← Aa y))
   | none => do some (.bin op (eqK P t y) (← Aa x) (← Aa y))
 | .unOp op _ x => do some (.un op (← Aa x))
 | .convert src dst x => do some (.conv (← Qp P src dst) (← Aa x))
 | .fieldAddr s x f => do some (.fieldAddr (← Vr P s f) (← Aa x))
 | .indexAddr t x i =>
   match Dv P t with
   | some (_, k) => do some (.idxSl k (← Aa x) (← Aa i))
   | none => match Ld P t with
     | some (n, k) => do some (.idxArr n k (← Aa x) (← Aa i))
     | none => none
 | .index t x i =>
   match P.underlying t with
   | some .string => do some (.idxStr (← Aa x) (← Aa i))
   | some (.array m e) => match L2 P e with
     | some (n, g) => do some (.idxVal m n g (← Aa x) (← Aa i))
     | none => none
   | _ => none
 | .field t x f =>
   match P.underlying t with
   | some (.struct fields) => match fields[f]? with
     | some fd => match L2 P fd.type with
       | some (n, g) => do some (.field n g fd.offset (← Aa x))
       | none => none
     | none => none
   | _ => none
 | .slice t x lo hi none =>
   match P.underlying t with
   | some .string => do some (.cutStr (← Aa x) (← Io lo) (← Io hi))
   | _ => match Dv P t with
     | some (_, k) => do some (.cutSl k (← Aa x) (← Io lo) (← Io hi))
     | none => match lo with
       | none => match Ld P t with
         | some (n, k) => do some (.cutArr n k (← Aa x) (← Io hi))
         | none => none
       | some _ => none
 | .panic x => (Aa x).map .pan
 | .typeAssert x _ T true => match P.underlying T with
   | some (.struct _) => do some (.tas T (← Aa x))
   | _ => none
 | .makeMap t none => cond (Nu P t) (some .mkMap) none
 | .mapUpdate t m k v => match Nu P t with
   | true => do some (.mapUpd (← Aa m) (← Aa k) (← Aa v))
   | false => none
 | .lookup t m k false => match Nu P t with
   | true => do some (.mapGet (← Aa m) (← Aa k))
   | false => none
 | .slice t x none (some (.const (.int _ 0))) (some (.const (.int _ 0))) => match Dv P t with
   | some _ => do some (.cut0 (← Aa x))
   | none => none
 | .makeSlice t x y => do
   let (e, k, b) ← En P t
   if b ≤ 1000 then some (.mkSl e k (← Dn P e) (← Aa x) (← Aa y)) else none
 | .call { callee := .builtin .clear, args, argTypes } =>
   match args.toList, argTypes.toList with
   | [x], [t] => do
     let (e, k, _) ← En P t
     some (.clear k (← Dn P e) (← Aa x))
   | _, _ => none
 | .range t x =>
   match P.underlying t with
   | some .string => do some (.range (← Aa x))
   | _ => none
 | .next x true => do some (.next (← Aa x))
 | .extract x i => do some (.extract (← Aa x) i)
 | .makeInterface t x => match P.underlying t with
   | some (.interface _) => none
   | some _ => do some (.iface t (← Aa x))
   | none => none
 | .call { callee := .builtin .max, args, .. } =>
   match args.toList with
   | [x, y] => do some (.mm true (← Aa x) (← Aa y))
   | _ => none
 | .call { callee := .builtin .min, args, .. } =>
   match args.toList with
   | [x, y] => do some (.mm false (← Aa x) (← Aa y))
   | _ => none
 | .makeFunc (.func f) first cap => do some (.mkfn f (← I6 first.toList) (← I6 cap.toList))
 | .call { callee := .value f, args, .. } => do some (.call (← Aa f) (← I6 args.toList))
 | .call { callee := .builtin .append, args, argTypes } =>
   match args.toList, argTypes.toList with
   | [x, y], [t, u] => if t == u then do
    let (e, k, b) ← En P t
    some (.append e k b (← Aa x) (← Aa y)) else match P.underlying u with
    | some .string => match Yw P t with
      | some e => do some (.appS e (← Aa x) (← Aa y))
      | none => none
    | _ => none
   | _, _ => none
 | .call { callee := .builtin .len, args, argTypes } =>
   match args.toList, argTypes.toList with
   | [x], [t] => match P.underlying t with
     | some .string => do some (.len true (← Aa x))
     | some (.slice _) => do some (.len false (← Aa x))
     | _ => none
   | _, _ => none
 | _ => none
theorem Cj {H : Hz} {x : Option AVal} {r : ARes} (h : Jx H x = some r) : ∃ v, x = some v ∧ r = .val v H [] := by
 cases x with
 | none => cases h
 | some v => exact ⟨v, rfl, by simp [Jx] at h; exact h.symm⟩
theorem L4 {H : Hz} {x : Option AV} {r : ARes} (h : Vm H x = some r) : ∃ v side, x = some (v, side) ∧ r = .val v H side := by
 cases x with
 | none => cases h
 | some p => obtain ⟨v, side⟩ := p; exact ⟨v, side, rfl, by simp [Vm] at h; exact h.symm⟩
section
variable {P : Program} {W0 : World} {G : List (Nat × AVal)} {bs : List Nat} {s : St} {a : Act} {w : World}
theorem C6 {o : Sem Value} {cv : Value} {w' : World} (h : o.run P w = .ok cv w') : (do pure (.value (← o)) : Sem Next).run P w = .ok (.value cv) w' := by simp [h]
theorem run_u {o : Sem Unit} {w' : World} (h : o.run P w = .ok () w') : (do o; pure .skip : Sem Next).run P w = .ok .skip w' := by simp [h]
theorem Uy (hg : GOK W0 G) (hs : RS W0 F bs s a w) {place : Nat → Option (Nat × Nat)} : ∀ {ps : List (Nat × Operand)} {qs : List (Nat × Nat × AOpd)} {vs : List (Nat × Nat × AVal)}, Hl place ps = some qs → Q5 G s qs = some vs →
 vs.length = (ps.map fun p => (p.1, a.eval p.2)).length ∧ ∀ (j : Nat) (p : Nat × Value), (ps.map fun p => (p.1, a.eval p.2))[j]? = some p → ∃ q : Nat × Nat × AVal, vs[j]? = some q ∧ place p.1 = some (q.1, q.2.1) ∧ Rep F bs s.H w q.2.2 p.2
 | [], qs, vs, hc, he => by
   simp [Hl] at hc; subst hc
   simp [Q5] at he; subst he
   exact ⟨rfl, fun j p h => by simp at h⟩
 | (i, x) :: ps, qs, vs, hc, he => by
   simp only [Hl] at hc
   split at hc
   · rename_i o n hp
     split at hc
     · rename_i y hy
       split at hc
       · rename_i l hl
         injection hc with hc; subst hc
         simp only [Q5] at he
         split at he
         · rename_i v hv
           split at he
           · rename_i l' hl'
             injection he with he; subst he
             obtain ⟨h1, h2⟩ := Uy hg hs hl hl'
             refine ⟨by simpa using h1, fun j p hj => ?_⟩
             cases j with
             | zero =>
               simp at hj; subst hj
               exact ⟨(o, n, v), rfl, hp, Az hg hs hy hv⟩
             | succ j => exact h2 j p (by simpa using hj)
           · cases he
         · cases he
       · cases hc
     · cases hc
   · cases hc
theorem N7 (hg : GOK W0 G) (hs : RS W0 F bs s a w) {x : Option Operand} {y : Option AOpd} (hc : Io x = some y) {b : Option Int} (hv : oev G s y = some b) :
 (b = none ∧ x.map a.eval = none) ∨ ∃ k n, b = some n ∧ x.map a.eval = some (.int k n) := by
 cases x with
 | none => simp [Io] at hc; subst hc; simp [oev] at hv; exact .inl ⟨hv.symm, rfl⟩
 | some x =>
   simp only [Io, Option.map_eq_some_iff] at hc
   obtain ⟨y', hy, rfl⟩ := hc
   simp only [oev] at hv
   split at hv
   · rename_i k n he
     injection hv with hv; subst hv
     have := Az hg hs hy he
     simp only [Rep] at this
     exact .inr ⟨k, n, rfl, by simp [this]⟩
   · cases hv
theorem A23 {t : TypeId} {y : Operand} {d : TypeDesc} (h : eqK P t y = some d) : P.underlying t = some d ∧ ∀ ms, d = .interface ms → ∃ c, y = .const c := by
 unfold eqK at h
 split at h <;> first
  | (rename_i hu; injection h with h; subst h; exact ⟨hu, fun ms e => by cases e⟩)
  | (cases h; done)
  | skip
 rename_i m hu
 cases hc : Vj y with
 | false => rw [hc] at h; cases h
 | true =>
   rw [hc] at h; injection h with h; subst h
   refine ⟨hu, fun ms _ => ?_⟩
   cases y <;> simp [Vj] at hc
   exact ⟨_, rfl⟩
theorem conv_ok (hh : A7 W0 F bs s.H w) {src dst : TypeId} {c : AConv} (hc : Qp P src dst = some c) {x : AVal} {cx : Value} (hx : Rep F bs s.H w x cx) {r : ARes}
 (h : Lt s.H c x = some r) : Cf P W0 F bs s.H w ((do pure (.value (← convert src dst cx)) : Sem Next).run P w) r := by
 unfold Qp at hc
 cases hs : P.underlying src with
 | none => rw [hs] at hc; cases hc
 | some ds =>
   cases hd : P.underlying dst with
   | none => rw [hs, hd] at hc; cases ds <;> cases hc
   | some dd =>
     rw [hs, hd] at hc
     cases ds <;> try (cases hc; done)
     case int k0 =>
      cases dd <;> try (cases hc; done)
      case int k =>
       injection hc with hc; subst hc
       cases x <;> simp only [Lt, Yb] at h <;> try (cases h; done)
       injection h with h; subst h
       rename_i _ n
       simp only [Rep] at hx; subst hx
       refine Cf.same hh (cv := .int k (k.wrap n)) (C6 ?_) (by simp [Rep])
       simp [convert, A3 w hs, A3 w hd, Conv.intToInt]
      case string =>
       injection hc with hc; subst hc
       cases x <;> simp only [Lt, Xz] at h <;> try (cases h; done)
       injection h with h; subst h
       rename_i _ n
       simp only [Rep] at hx; subst hx
       refine Cf.same hh (cv := .string (Utf8.encode n)) (C6 ?_) (by simp [Rep])
       simp [convert, A3 w hs, A3 w hd, Conv.intToString]
     case string =>
      cases dd <;> try (cases hc; done)
      case string =>
       injection hc with hc; subst hc
       cases x <;> simp only [Lt, Ym] at h <;> try (cases h; done)
       injection h with h; subst h
       simp only [Rep] at hx; subst hx
       refine Cf.same hh (C6 (cv := .string _) ?_) (by simp only [Rep]; rfl)
       simp [convert, A3 w hs, A3 w hd]
      case slice e =>
       simp only at hc
       split at hc
       · rename_i he
         injection hc with hc; subst hc
         cases x <;> simp only [Lt, A35] at h <;> try (cases h; done)
         injection h with h; subst h
         simp only [Rep] at hx; subst hx
         intro _
         obtain ⟨cv, w', bs', h1, h2, h3, h4⟩ := as2b_ok hh hs hd he _
         exact ⟨cv, w', bs', C6 h1, h2, h3, h4⟩
       · cases hc
     case slice e =>
      cases dd <;> try (cases hc; done)
      case string =>
       simp only at hc
       split at hc
       · rename_i he
         injection hc with hc; subst hc
         simp only [Lt] at h
         obtain ⟨v, hv, rfl⟩ := Cj h
         obtain ⟨cv, h1, h2⟩ := ab2s_ok (P := P) hh hs hd he hx hv
         exact Cf.same hh (C6 h1) h2
       · cases hc
theorem Ph {t : TypeId} {x : Operand} {lo hi : Option Operand} {mx : Operand} {ao : AOp} (hc : Ah P (.slice t x lo hi (some mx)) = some ao) :
 ∃ k1 k2, lo = none ∧ hi = some (.const (.int k1 0)) ∧ mx = .const (.int k2 0) ∧ ∃ ek x', Dv P t = some ek ∧ Aa x = some x' ∧ ao = .cut0 x' := by
 unfold Ah at hc
 split at hc <;> (try contradiction)
 all_goals (rename_i heq; injection heq with e1 e2 e3 e4 e5)
 all_goals (first | (cases e5; done) | skip)
 subst e1; subst e2; subst e3; subst e4
 injection e5 with e5; subst e5
 split at hc
 · rename_i ek ht
   simp only [oBb, oBi, iS] at hc
   obtain ⟨x', hx', rfl⟩ := hc
   exact ⟨_, _, rfl, rfl, rfl, ek, x', ht, hx', rfl⟩
 · cases hc
theorem V2 (hg : GOK W0 G) (hs : RS W0 F bs s a w) {o : Oper} {ao : AOp} (hc : Ah P o.op = some ao) {r : ARes} (h : aop G s ao = some r) :
 Cf P W0 F bs s.H w ((execOp a.eval o).run P w) r := by
 have hh := hs.heap
 obtain ⟨dst, op, ty, pos, after, guard⟩ := o
 simp only at hc
 cases op <;> try (cases hc; done)
 case move x =>
  simp only [Ah, Option.map_eq_some_iff] at hc
  obtain ⟨y, hy, rfl⟩ := hc
  obtain ⟨v, hv, rfl⟩ := Cj h
  exact Cf.same hh (cv := a.eval x) rfl (Az hg hs hy hv)
 case assign x =>
  simp only [Ah, Option.map_eq_some_iff] at hc
  obtain ⟨y, hy, rfl⟩ := hc
  obtain ⟨v, hv, rfl⟩ := Cj h
  exact Cf.same hh (cv := a.eval x) rfl (Az hg hs hy hv)
 case pick c x y =>
  simp only [Ah, oBb, oBi, iS] at hc
  obtain ⟨c', hc', x', hx', y', hy', rfl⟩ := hc
  simp only [aop] at h
  split at h
  · rename_i t ht
    obtain ⟨v, hv, rfl⟩ := Cj h
    have hcv := Az hg hs hc' ht
    simp only [Rep] at hcv
    cases t with
    | true => exact Cf.same hh (cv := a.eval x) (by simp [execOp, hcv, asBool]) (Az hg hs hx' hv)
    | false => exact Cf.same hh (cv := a.eval y) (by simp [execOp, hcv, asBool]) (Az hg hs hy' hv)
  · cases h
 case alloc T =>
  simp only [Ah, oBb, oBi, iS] at hc
  obtain ⟨zs, hz, rfl⟩ := hc
  simp only [aop, iS] at h; subst h
  intro _
  obtain ⟨cv, w', bs', h1, h2⟩ := A2m (P := P) hh hz
  exact ⟨cv, w', bs', C6 h1, h2⟩
 case box T x =>
  simp only [Ah, oBb, oBi, iS] at hc
  obtain ⟨x', hx', rfl⟩ := hc
  simp only [aop] at h
  split at h
  · rename_i v hv
    injection h with h; subst h
    intro _
    obtain ⟨cv, w', bs', h1, h2⟩ := box_ok (P := P) hh T (Az hg hs hx' hv)
    exact ⟨cv, w', bs', C6 h1, h2⟩
  · cases h
 case load t x =>
  simp only [Ah, oBb, oBi, iS] at hc
  obtain ⟨⟨n, agg⟩, ht, x', hx', rfl⟩ := hc
  simp only [aop] at h
  split at h
  · rename_i p hp
    obtain ⟨v, hv, rfl⟩ := Cj h
    obtain ⟨cv, h1, h2⟩ := Xd hh ht (Az hg hs hx' hp) hv
    exact Cf.same hh (C6 h1) h2
  · cases h
 case store t x y =>
  simp only [Ah, oBb, oBi, iS] at hc
  obtain ⟨⟨n, agg⟩, ht, x', hx', y', hy', rfl⟩ := hc
  simp only [aop] at h
  split at h
  · rename_i p hp
    split at h
    · rename_i v hv
      split at h
      · rename_i H' hH
        injection h with h; subst h
        obtain ⟨w', h1, h2, h3⟩ := A15 (P := P) hh ht (Az hg hs hx' hp) (Az hg hs hy' hv) hH
        exact ⟨w', bs, run_u h1, h2, h3⟩
      · cases h
    · cases h
  · cases h
 case panic x =>
  simp only [Ah, Option.map_eq_some_iff] at hc
  obtain ⟨y, hy, rfl⟩ := hc
  simp only [aop] at h
  cases h
 case typeAssert x xt T ok =>
  cases ok <;> try (cases hc; done)
  simp only [Ah] at hc
  split at hc
  · rename_i fs hu
    simp only [oBb, oBi, iS] at hc
    obtain ⟨x', hx', rfl⟩ := hc
    simp only [aop] at h
    split at h
    · rename_i U u hx
      cases hb : Nat.beq U T with
      | false => rw [hb] at h; cases h
      | true =>
        rw [hb, cond_true] at h
        injection h with h; subst h
        have hUT := nBq hb
        subst hUT
        have hr := Az hg hs hx' hx
        simp only [Rep] at hr
        obtain ⟨cu, hcv, hcu⟩ := hr
        refine Cf.same hh (C6 (cv := .tuple #[cu, .bool true]) ?_) ?_
        · simp [Instr.typeAssert, A3 w hu, hcv]
        · simp only [Rep, A5]
          exact ⟨[_, _], rfl, _, _, rfl, hcu, _, _, rfl, rfl, rfl⟩
    · cases h
  · cases hc
 case makeMap t r =>
  cases r <;> try (cases hc; done)
  simp only [Ah] at hc
  cases ht : Nu P t with
  | false => rw [ht] at hc; cases hc
  | true =>
    rw [ht] at hc
    simp only [cond_true, iS] at hc
    subst hc
    simp only [aop, iS] at h; subst h
    intro _
    obtain ⟨cv, w', bs', h1, h2⟩ := A3w (P := P) hh (t := t)
    exact ⟨cv, w', bs', C6 h1, h2⟩
 case mapUpdate t m k v =>
  simp only [Ah] at hc
  split at hc
  · rename_i ht
    simp only [oBb, oBi, iS] at hc
    obtain ⟨m', hm', k', hk', v', hv', rfl⟩ := hc
    simp only [aop] at h
    split at h
    · rename_i mm hmm
      split at h
      · rename_i kk hkk
        split at h
        · rename_i vv hvv
          split at h
          · rename_i H' hH
            injection h with h; subst h
            obtain ⟨w', h1, h2, h3⟩ := aupd_ok (P := P) hh ht (Az hg hs hm' hmm) (Az hg hs hk' hkk) (Az hg hs hv' hvv) hH
            exact ⟨w', bs, run_u h1, h2, h3⟩
          · cases h
        · cases h
      · cases h
    · cases h
  · cases hc
 case lookup t m k c =>
  cases c <;> try (cases hc; done)
  simp only [Ah] at hc
  split at hc
  · rename_i ht
    simp only [oBb, oBi, iS] at hc
    obtain ⟨m', hm', k', hk', rfl⟩ := hc
    simp only [aop] at h
    split at h
    · rename_i mm hmm
      split at h
      · rename_i kk hkk
        obtain ⟨v, hv, rfl⟩ := Cj h
        obtain ⟨cv, h1, h2⟩ := aget_ok (P := P) hh ht (Az hg hs hm' hmm) (Az hg hs hk' hkk) hv
        exact Cf.same hh (C6 h1) h2
      · cases h
    · cases h
  · cases hc
 case nilCheck x =>
  simp only [Ah, oBb, oBi, iS] at hc
  obtain ⟨x', hx', rfl⟩ := hc
  simp only [aop] at h
  split at h
  · rename_i p hp
    obtain ⟨v, hv, rfl⟩ := Cj h
    obtain ⟨h1, h2⟩ := anil_ok (P := P) (o := ⟨dst, .nilCheck x, ty, pos, after, guard⟩) rfl (Az hg hs hx' hp) hv
    exact Cf.same hh h1 h2
  · cases h
 case binOp op t x y yt =>
  simp only [Ah] at hc
  split at hc
  · rename_i neg e hpl
    simp only [oBb, oBi, iS] at hc
    obtain ⟨x', hx', y', hy', rfl⟩ := hc
    simp only [aop] at h
    split at h
    · rename_i p hp
      split at h
      · rename_i q hq
        split at h
        · rename_i r' hr'
          injection h with h; subst h
          unfold eqsOf at hpl
          split at hpl
          · rename_i hu
            cases hgd : P.eqGuardType P.depth t with
            | true => rw [hgd] at hpl; cases hpl
            | false =>
              rw [hgd, cond_false] at hpl
              split at hpl
              · rename_i e1 he1
                have hop : e1 = e ∧ ((op = .eql ∧ neg = false) ∨ (op = .neq ∧ neg = true)) := by
                 cases op <;> simp only [iS, iP, reduceCtorEq] at hpl <;> simp [hpl.1, hpl.2]
                obtain ⟨rfl, hop⟩ := hop
                have := eqs_ok (P := P) (ox := x) (oy := y) hu hgd he1 hop (Az hg hs hx' hp) (Az hg hs hy' hq) hr'
                exact Cf.same hh (C6 this) (by simp only [Rep])
              · cases hpl
          · cases hpl
        · cases h
      · cases h
    · cases h
  · simp only [oBb, oBi, iS] at hc
    obtain ⟨x', hx', y', hy', rfl⟩ := hc
    simp only [aop] at h
    split at h
    · rename_i p hp
      split at h
      · rename_i q hq
        obtain ⟨v, side, hv, rfl⟩ := L4 h
        intro hsd
        obtain ⟨cv, h1, h2⟩ := abin_ok (P := P) (t := t) (ox := x) (oy := y) (Az hg hs hx' hp) (Az hg hs hy' hq) hv hsd (fun d' hd => (A23 hd).1) (fun ms hm => (A23 hm).2 ms rfl)
        exact ⟨cv, w, bs, C6 h1, h2, hh, Ext.refl _ _ _⟩
      · cases h
    · cases h
 case field t x f =>
  simp only [Ah] at hc
  split at hc
  · rename_i fields hu
    split at hc
    · rename_i fd hfd
      split at hc
      · rename_i n g ht
        simp only [oBb, oBi, iS] at hc
        obtain ⟨x', hx', rfl⟩ := hc
        simp only [aop] at h
        split at h
        · rename_i p hp
          obtain ⟨v, hv, rfl⟩ := Cj h
          obtain ⟨us, ca, h0, h1, h2⟩ := U2 (P := P) ht (Az hg hs hx' hp) hv
          refine Cf.same hh (C6 ?_) h2
          simp only [Instr.field, sRb, A3 w hu, rAo, hfd, h0, asAgg, Sem.run_pure]
          exact h1
        · cases h
      · cases hc
    · cases hc
  · cases hc
 case unOp op t x =>
  simp only [Ah, oBb, oBi, iS] at hc
  obtain ⟨x', hx', rfl⟩ := hc
  simp only [aop] at h
  split at h
  · rename_i p hp
    obtain ⟨v, hv, rfl⟩ := Cj h
    obtain ⟨cv, h1, h2⟩ := aun_ok (P := P) (Az hg hs hx' hp) hv
    exact Cf.same hh (C6 h1) h2
  · cases h
 case convert src dst' x =>
  simp only [Ah, oBb, oBi, iS] at hc
  obtain ⟨c, hc', x', hx', rfl⟩ := hc
  simp only [aop] at h
  split at h
  · rename_i p hp
    exact conv_ok hh hc' (Az hg hs hx' hp) h
  · cases h
 case fieldAddr t x f =>
  simp only [Ah, oBb, oBi, iS] at hc
  obtain ⟨off, hf, x', hx', rfl⟩ := hc
  simp only [aop] at h
  split at h
  · rename_i p hp
    obtain ⟨v, hv, rfl⟩ := Cj h
    obtain ⟨cv, h1, h2⟩ := Ut (P := P) hf (Az hg hs hx' hp) hv
    exact Cf.same hh (C6 h1) h2
  · cases h
 case extract x i =>
  simp only [Ah, oBb, oBi, iS] at hc
  obtain ⟨x', hx', rfl⟩ := hc
  simp only [aop] at h
  split at h
  · rename_i p hp
    obtain ⟨v, hv, rfl⟩ := Cj h
    obtain ⟨cv, h1, h2⟩ := W3 (P := P) (Az hg hs hx' hp) hv
    exact Cf.same hh (C6 h1) h2
  · cases h
 case build t ps =>
  simp only [Ah] at hc
  split at hc
  · rename_i hk
    simp only [oBb, oBi, iS] at hc
    obtain ⟨zs, hz, ps', hps, rfl⟩ := hc
    simp only [aop] at h
    split at h
    · rename_i qs hqs
      split at h
      · rename_i r' hr'
        injection h with h; subst h
        obtain ⟨hl, hp⟩ := Uy hg hs hps hqs
        have hlist : (ps.map fun (i, x) => (i, a.eval x)).toList = ps.toList.map fun p => (p.1, a.eval p.2) := by simp
        have hkind : (∃ fs, P.underlying t = some (.struct fs) ∧ (fs.toList.mapM (fun f => (P.info? f.type).map fun i => (f.offset, i.size))).isSome = true) ∨ (∃ n e, P.underlying t = some (.array n e) ∧ (P.info? e).isSome = true) := by
         unfold A3s at hk
         split at hk
         · rename_i fs hu; exact .inl ⟨fs, hu, hk⟩
         · rename_i n e hu; exact .inr ⟨n, e, hu, hk⟩
         · cases hk
        obtain ⟨cv, h1, h2⟩ := A0m (P := P) (ps := ps.map fun (i, x) => (i, a.eval x)) hz (fun j p hj => hp j p (by rw [← hlist]; exact hj)) (by rw [hlist]; exact hl) hkind hr'
        exact Cf.same hh (C6 h1) h2
      · cases h
    · cases h
  · cases hc
 case buildSlice t len ps =>
  simp only [Ah, oBb, oBi] at hc
  obtain ⟨⟨e, k, b⟩, ht, hc⟩ := hc
  simp only at hc
  split at hc
  · rename_i hlen
    simp only [oBi, iS] at hc
    obtain ⟨zs, hz, ps', hps, rfl⟩ := hc
    simp only [aop] at h
    split at h
    · rename_i qs hqs
      split at h
      · rename_i r' hr'
        injection h with h; subst h
        obtain ⟨hl, hp⟩ := Uy hg hs hps hqs
        have hlist : (ps.map fun (i, x) => (i, a.eval x)).toList = ps.toList.map fun p => (p.1, a.eval p.2) := by simp
        intro _
        obtain ⟨cv, w', bs', h1, h2⟩ := Z0 (P := P) hh ht hz hlen (ps := ps.map fun (i, x) => (i, a.eval x)) (fun j p hj => by
         obtain ⟨q, hq1, hq2, hq3⟩ := hp j p (by rw [← hlist]; exact hj)
         exact ⟨q, hq1, by simpa using hq2, hq3⟩) (by rw [hlist]; exact hl) hr'
        exact ⟨cv, w', bs', C6 h1, h2⟩
      · cases h
    · cases h
  · cases hc
 case makeFunc fn first cap =>
  cases fn <;> try (cases hc; done)
  case func f =>
   simp only [Ah, oBb, oBi, iS] at hc
   obtain ⟨x', hx', y', hy', rfl⟩ := hc
   simp only [aop] at h
   split at h
   · rename_i p hp
     split at h
     · rename_i q hq
       injection h with h; subst h
       have h1 := Vq hg hs hx' hp
       have h2 := Vq hg hs hy' hq
       refine Cf.same hh (cv := .func (.func f) (first.map a.eval) (cap.map a.eval)) rfl ?_
       simp only [Rep]
       exact ⟨_, _, by rw [← Array.toList_map, ← Array.toList_map, Array.toArray_toList, Array.toArray_toList], h1, h2⟩
     · cases h
   · cases h
 case range t x =>
  simp only [Ah] at hc
  split at hc
  · rename_i hu
    simp only [oBb, oBi, iS] at hc
    obtain ⟨x', hx', rfl⟩ := hc
    simp only [aop] at h
    split at h
    · rename_i l hl
      injection h with h; subst h
      have := Az hg hs hx' hl
      simp only [Rep] at this
      intro _
      obtain ⟨cv, w', bs', h1, h2⟩ := A17 (P := P) hh hu (s := l)
      exact ⟨cv, w', bs', C6 (by rw [this]; exact h1), h2⟩
    · cases h
  · cases hc
 case next x st =>
  cases st <;> try (cases hc; done)
  simp only [Ah, oBb, oBi, iS] at hc
  obtain ⟨x', hx', rfl⟩ := hc
  simp only [aop] at h
  split at h
  · rename_i p hp
    split at h
    · rename_i v H' hn
      injection h with h; subst h
      intro _
      obtain ⟨cv, w', h1, h2⟩ := A1o (P := P) (T := ty) hh (Az hg hs hx' hp) hn
      exact ⟨cv, w', bs, C6 h1, h2⟩
    · cases h
  · cases h
 case index t x i =>
  simp only [Ah] at hc
  split at hc
  · rename_i hu
    simp only [oBb, oBi, iS] at hc
    obtain ⟨x', hx', i', hi', rfl⟩ := hc
    simp only [aop] at h
    split at h
    · rename_i l hl
      split at h
      · rename_i k n hn
        injection h with h; subst h
        have h1 := Az hg hs hx' hl
        have h2 := Az hg hs hi' hn
        simp only [Rep] at h1 h2
        intro hsd
        obtain ⟨cv, hr1, hr2⟩ := Yh (P := P) (F := F) (w := w) (bs := bs) (H := s.H) (k := k) hu hsd.1 hsd.2.1
        exact ⟨cv, w, bs, C6 (by rw [h1, h2]; exact hr1), hr2, hh, Ext.refl _ _ _⟩
      · cases h
    · cases h
  · rename_i m e hu
    split at hc
    · rename_i n g ht
      simp only [oBb, oBi, iS] at hc
      obtain ⟨x', hx', i', hi', rfl⟩ := hc
      simp only [aop] at h
      split at h
      · rename_i p hp
        split at h
        · rename_i k0 j0 hj
          split at h
          · rename_i v hv
            injection h with h; subst h
            intro hsd
            have h2 := Az hg hs hi' hj
            simp only [Rep] at h2
            obtain ⟨us, ca, h0, h1, h3⟩ := U2 (P := P) ht (Az hg hs hx' hp) hv
            refine ⟨ca, w, bs, C6 ?_, h3, hh, Ext.refl _ _ _⟩
            have hii : 0 ≤ j0 ∧ j0 < (m : Int) := by
             have a1 := hsd.1
             have a2 := hsd.2.1
             simp only at a1 a2
             omega
            simp only [Instr.index, asIntOf, h2, h0, sRb, Sem.run_pure, rAo, A3 w hu, hii, and_self, if_true, (O3 w ht).2]
            exact h1
          · cases h
        · cases h
      · cases h
    · cases hc
  · cases hc
 case slice t x lo hi mx =>
  cases mx with
  | some mx =>
    obtain ⟨k1, k2, rfl, rfl, rfl, ⟨e, k⟩, x', ht, hx', rfl⟩ := Ph hc
    simp only [aop] at h
    split at h
    · rename_i u hu
      obtain ⟨v, hv, rfl⟩ := Cj h
      obtain ⟨h1, h2⟩ := Em ht
      have hr := Az hg hs hx' hu
      have key : ∀ ad n c, a.eval x = .slice ad n c → (execOp a.eval ⟨dst, .slice t x none (some (.const (.int k1 0))) (some (.const (.int k2 0))), ty, pos, after, guard⟩).run P w = .ok (.value (.slice ad 0 0)) w := by
       intro ad n c hcx
       refine C6 ?_
       have hev : ∀ v, a.eval (.const v) = v := fun _ => rfl
       simp [hcx, hev, Instr.sliceAt, A3 w h1, Instr.slice, Instr.sliceBounds, Instr.sliceBound, asIntOf, h2]
      cases u <;> simp only [acut0] at hv <;> try (cases hv; done)
      case nilSl =>
       injection hv with hv; subst hv
       simp only [Rep] at hr
       exact Cf.same hh (key _ _ _ hr) (by simp only [Rep])
      case emp =>
       injection hv with hv; subst hv
       simp only [Rep] at hr
       obtain ⟨ad, hr⟩ := hr
       exact Cf.same hh (key _ _ _ hr) (by simp only [Rep]; exact ⟨_, rfl⟩)
      case row k es =>
       cases es with
       | nil => cases hv
       | cons e1 es =>
         injection hv with hv; subst hv
         simp only [Rep] at hr
         obtain ⟨ad, cap, vs, hr, hl, _, hrow⟩ := hr
         have hll := hl.length
         cases ad with
         | none => have := hrow.1; subst this; simp at hll
         | some ad => exact Cf.same hh (key _ _ _ hr) (by simp only [Rep]; exact ⟨_, rfl⟩)
      case hsl k id off len cap =>
       injection hv with hv; subst hv
       simp only [Rep] at hr
       obtain ⟨⟨ad, c, _, hr⟩, _⟩ := hr
       exact Cf.same hh (key _ _ _ hr) (by simp only [Rep]; exact ⟨_, rfl⟩)
    · cases h
  | none =>
  simp only [Ah] at hc
  split at hc
  · rename_i hu
    simp only [oBb, oBi, iS] at hc
    obtain ⟨x', hx', lo', hlo', hi', hhi', rfl⟩ := hc
    simp only [aop] at h
    split at h
    · rename_i l hl
      split at h
      · rename_i la hla
        split at h
        · rename_i ha hha
          injection h with h; subst h
          have h1 := Az hg hs hx' hl
          simp only [Rep] at h1
          intro hsd
          obtain ⟨cv, hr1, hr2⟩ := Yy (P := P) (F := F) (w := w) (bs := bs) (H := s.H) hu (N7 hg hs hlo' hla) (N7 hg hs hhi' hha) rfl hsd
          exact ⟨cv, w, bs, C6 (by rw [h1]; exact hr1), hr2, hh, Ext.refl _ _ _⟩
        · cases h
      · cases h
    · cases h
  · split at hc
    · rename_i e k ht
      simp only [oBb, oBi, iS] at hc
      obtain ⟨x', hx', lo', hlo', hi', hhi', rfl⟩ := hc
      simp only [aop] at h
      split at h
      · rename_i k' es hl
        split at h
        · rename_i la hla
          split at h
          · rename_i ha hha
            cases hk : Nat.beq k k' with
            | false => rw [hk] at h; cases h
            | true =>
              rw [hk, cond_true] at h
              have := nBq hk; subst this
              injection h with h; subst h
              intro hsd
              obtain ⟨cv, hr1, hr2⟩ := Yi (P := P) ht (Az hg hs hx' hl) (N7 hg hs hlo' hla) (N7 hg hs hhi' hha) rfl hsd
              exact ⟨cv, w, bs, C6 hr1, hr2, hh, Ext.refl _ _ _⟩
          · cases h
        · cases h
      · rename_i k' id off len cap hl
        split at h
        · rename_i la hla
          split at h
          · rename_i ha hha
            cases hk : Nat.beq k k' with
            | false => rw [hk] at h; cases h
            | true =>
              rw [hk, cond_true] at h
              have := nBq hk; subst this
              obtain ⟨v, side, hv, rfl⟩ := L4 h
              intro hsd
              obtain ⟨cv, hr1, hr2⟩ := Yf (P := P) ht (Az hg hs hx' hl) (N7 hg hs hlo' hla) (N7 hg hs hhi' hha) hv hsd
              exact ⟨cv, w, bs, C6 hr1, hr2, hh, Ext.refl _ _ _⟩
          · cases h
        · cases h
      · cases h
    · cases lo with
      | some lo => cases hc
      | none =>
        simp only at hc
        split at hc
        · rename_i n k ht
          simp only [oBb, oBi, iS] at hc
          obtain ⟨x', hx', hi', hhi', rfl⟩ := hc
          simp only [aop] at h
          split at h
          · rename_i p hp
            split at h
            · rename_i b hb
              obtain ⟨v, side, hv, rfl⟩ := L4 h
              intro hsd
              obtain ⟨cv, hr1, hr2⟩ := Xy (P := P) ht (Az hg hs hx' hp) (N7 hg hs hhi' hb) hv hsd
              exact ⟨cv, w, bs, C6 hr1, hr2, hh, Ext.refl _ _ _⟩
            · cases h
          · cases h
        · cases hc
 case makeSlice t x y =>
  simp only [Ah, oBb, oBi] at hc
  obtain ⟨⟨e, k, b⟩, ht, hc⟩ := hc
  simp only at hc
  split at hc
  · rename_i hb
    simp only [oBi, iS] at hc
    obtain ⟨zs, hz, x', hx', y', hy', rfl⟩ := hc
    simp only [aop] at h
    split at h
    · rename_i k1 n hn
      split at h
      · rename_i k2 m hm
        injection h with h; subst h
        have h1 := Az hg hs hx' hn
        have h2 := Az hg hs hy' hm
        simp only [Rep] at h1 h2
        intro hsd
        obtain ⟨s1, s2, s3, s4, _⟩ := hsd
        have hnm : m = n := Int.le_antisymm s4 s3
        subst hnm
        obtain ⟨cv, w', bs', hr1, hr2⟩ := A1r (P := P) hh ht hz (j := k1) (j' := k2) s1 s2 hb
        exact ⟨cv, w', bs', C6 (by rw [h1, h2]; exact hr1), hr2⟩
      · cases h
    · cases h
  · cases hc
 case indexAddr t x i =>
  simp only [Ah] at hc
  split at hc
  · rename_i e k ht
    simp only [oBb, oBi, iS] at hc
    obtain ⟨x', hx', i', hi', rfl⟩ := hc
    simp only [aop] at h
    split at h
    · rename_i p hp
      split at h
      · rename_i k2 n hn
        have h1 := Az hg hs hx' hp
        have h2 := Az hg hs hi' hn
        simp only [Rep] at h2
        split at h
        · rename_i k' es
          cases hk : (Nat.beq k k' && Nat.ble 1 k) with
          | false => rw [hk] at h; cases h
          | true =>
            rw [hk, cond_true] at h
            simp only [bAt] at hk
            have := nBq hk.1; subst this
            injection h with h; subst h
            intro hsd
            obtain ⟨cv, hr1, hr2⟩ := Xw (P := P) (k := k2) ht (Nat.le_of_ble_eq_true hk.2) h1 hsd.1 hsd.2.1 .nilIf
            exact ⟨cv, w, bs, C6 (by rw [h2]; exact hr1), hr2, hh, Ext.refl _ _ _⟩
        · rename_i k' id off len cap
          cases hk : (Nat.beq k k' && Gv s.H id) with
          | false =>
            rw [hk, cond_false] at h
            cases hk2 : (Nat.beq k k' && (Nat.beq off 0 && J3 s.H id (len * k))) with
            | false => rw [hk2] at h; cases h
            | true =>
              rw [hk2, cond_true] at h
              simp only [bAt] at hk2
              have := nBq hk2.1; subst this
              have := nBq hk2.2.1; subst this
              injection h with h; subst h
              intro hsd
              obtain ⟨cv, hr1, hr2⟩ := Wn (P := P) (k := k2) ht hk2.2.2 h1 hsd.1 hsd.2.1
              exact ⟨cv, w, bs, C6 (by rw [h2]; exact hr1), hr2, hh, Ext.refl _ _ _⟩
          | true =>
            rw [hk, cond_true] at h
            simp only [bAt] at hk
            have := nBq hk.1; subst this
            injection h with h; subst h
            intro hsd
            obtain ⟨cv, hr1, hr2⟩ := Y2 (P := P) (k := k2) ht hk.2 h1 hsd.1 hsd.2.1
            exact ⟨cv, w, bs, C6 (by rw [h2]; exact hr1), hr2, hh, Ext.refl _ _ _⟩
        · cases h
      · cases h
    · cases h
  · split at hc
    · rename_i m k ht
      simp only [oBb, oBi, iS] at hc
      obtain ⟨x', hx', i', hi', rfl⟩ := hc
      simp only [aop] at h
      split at h
      · rename_i p hp
        split at h
        · rename_i k2 n hn
          have h1 := Az hg hs hx' hp
          have h2 := Az hg hs hi' hn
          simp only [Rep] at h2
          split at h
          · rename_i q hq
            injection h with h; subst h
            intro hsd
            obtain ⟨cv, hr1, hr2⟩ := Xp (P := P) (k := k2) ht h1 hsd.1 hsd.2.1 hq
            exact ⟨cv, w, bs, C6 (by rw [h2]; exact hr1), hr2, hh, Ext.refl _ _ _⟩
          · cases h
        · cases h
      · cases h
    · cases hc
 case makeInterface t x =>
  simp only [Ah] at hc
  split at hc
  · cases hc
  · rename_i d hni hu
    simp only [oBb, oBi, iS] at hc
    obtain ⟨x', hx', rfl⟩ := hc
    simp only [aop] at h
    split at h
    · rename_i p hp
      injection h with h; subst h
      have h1 := Az hg hs hx' hp
      refine Cf.same hh (cv := .iface t (a.eval x)) (C6 ?_) (by simp only [Rep]; exact ⟨_, rfl, h1⟩)
      simp only [Instr.makeInterface, sRb, A3 w hu, rAo]
      cases d <;> first | rfl | (exact absurd rfl (hni _))
    · cases h
  · cases hc
 case call c =>
  obtain ⟨callee, args, ats⟩ := c
  cases callee <;> try (cases hc; done)
  case value f =>
   simp only [Ah, oBb, oBi, iS] at hc
   obtain ⟨f', hf', args', hargs', rfl⟩ := hc
   simp only [aop] at h
   split at h
   · rename_i g first cap hfv
     split at h
     · rename_i l hl
       injection h with h; subst h
       intro hb
       have h1 := Az hg hs hf' hfv
       have h2 := Vq hg hs hargs' hl
       obtain ⟨us, hr1, hr2⟩ := A2s (P := P) h1 h2 hb
       refine ⟨us, ?_, hr2⟩
       simp only [execOp, Ss]
       rw [show args.map a.eval = (args.toList.map a.eval).toArray by rw [← Array.toList_map, Array.toArray_toList]]
       exact hr1
     · cases h
   · cases h
  case builtin b =>
   cases b <;> try (cases hc; done)
   case append =>
    simp only [Ah] at hc
    split at hc
    · rename_i x y t u hx hy
      split at hc
      · rename_i htu
        have htu' : t = u := by simpa using htu
        subst htu'
        simp only [oBb, oBi, iS] at hc
        obtain ⟨⟨e, k, b⟩, ht, x', hx', y', hy', rfl⟩ := hc
        simp only [aop] at h
        split at h
        · rename_i p hp
          split at h
          · rename_i q hq
            split at h
            · rename_i v H' side hv
              injection h with h; subst h
              intro hsd
              obtain ⟨cv, w', bs', h1, h2⟩ := aapp_ok (P := P) (ty := ty) hh ht (Az hg hs hx' hp) (Az hg hs hy' hq) hv hsd
              refine ⟨cv, w', bs', ?_, h2⟩
              have ha : args = #[x, y] := by apply Array.ext'; rw [hx]
              have hat : ats = #[t, t] := by apply Array.ext'; rw [hy]
              subst ha; subst hat
              simp only [execOp, resolve, sRb, Sem.run_pure, rAo, invoke, builtin]
              simp only [List.map_toArray, List.map_cons, List.map_nil, h1, rAo]
            · cases h
          · cases h
        · cases h
      · split at hc
        · rename_i hus
          split at hc
          · rename_i e hbs
            simp only [oBb, oBi, iS] at hc
            obtain ⟨x', hx', y', hy', rfl⟩ := hc
            simp only [aop] at h
            split at h
            · rename_i p hp
              split at h
              · rename_i l hq
                split at h
                · rename_i v H' side hv
                  injection h with h; subst h
                  intro hsd
                  have hys := Az hg hs hy' hq
                  simp only [Rep] at hys
                  obtain ⟨cv, w', bs', h1, h2⟩ := A3g (P := P) (ty := ty) hh hbs hus (Az hg hs hx' hp) hv hsd
                  refine ⟨cv, w', bs', ?_, h2⟩
                  have ha : args = #[x, y] := by apply Array.ext'; rw [hx]
                  have hat : ats = #[t, u] := by apply Array.ext'; rw [hy]
                  subst ha; subst hat
                  simp only [execOp, resolve, sRb, Sem.run_pure, rAo, invoke, builtin]
                  simp only [List.map_toArray, List.map_cons, List.map_nil, hys, h1, rAo]
                · cases h
              · cases h
            · cases h
          · cases hc
        · cases hc
    · cases hc
   case clear =>
    simp only [Ah] at hc
    split at hc
    · rename_i x t hx hy
      simp only [oBb, oBi, iS] at hc
      obtain ⟨⟨e, k, b⟩, ht, zs, hz, x', hx', rfl⟩ := hc
      simp only [aop] at h
      split at h
      · rename_i p hp
        split at h
        · rename_i H' hv
          injection h with h; subst h
          intro _
          obtain ⟨w', h1, h2⟩ := A0t (P := P) (ty := ty) hh ht hz (Az hg hs hx' hp) hv
          have ha : args = #[x] := by apply Array.ext'; rw [hx]
          have hat : ats = #[t] := by apply Array.ext'; rw [hy]
          subst ha; subst hat
          refine ⟨.tuple #[], w', bs, ?_, by simp [Rep, A5], h2⟩
          simp only [execOp, resolve, sRb, Sem.run_pure, rAo, invoke, builtin]
          simp only [List.map_toArray, List.map_cons, List.map_nil, h1, rAo]
        · cases h
      · cases h
    · cases hc
   case max =>
    simp only [Ah] at hc
    split at hc
    · rename_i x y hx
      have ha : args = #[x, y] := by apply Array.ext'; rw [hx]
      subst ha
      simp only [oBb, oBi, iS] at hc
      obtain ⟨x', hx', y', hy', rfl⟩ := hc
      simp only [aop] at h
      split at h
      · rename_i k m hm
        split at h
        · rename_i k2 n hn
          injection h with h; subst h
          have h1 := Az hg hs hx' hm
          have h2 := Az hg hs hy' hn
          simp only [Rep] at h1 h2
          refine Cf.same hh (cv := .int k (if m < n then n else m)) ?_ ?_
          · simp only [execOp, resolve, sRb, Sem.run_pure, rAo, invoke, builtin]
            simp only [List.map_toArray, List.map_cons, List.map_nil, h1, h2, Builtin.max_]
            rfl
          · simp only [Rep, cond_true]
            by_cases hlt : m < n <;> simp [hlt]
        · cases h
      · cases h
    · cases hc
   case min =>
    simp only [Ah] at hc
    split at hc
    · rename_i x y hx
      have ha : args = #[x, y] := by apply Array.ext'; rw [hx]
      subst ha
      simp only [oBb, oBi, iS] at hc
      obtain ⟨x', hx', y', hy', rfl⟩ := hc
      simp only [aop] at h
      split at h
      · rename_i k m hm
        split at h
        · rename_i k2 n hn
          injection h with h; subst h
          have h1 := Az hg hs hx' hm
          have h2 := Az hg hs hy' hn
          simp only [Rep] at h1 h2
          refine Cf.same hh (cv := .int k (if n < m then n else m)) ?_ ?_
          · simp only [execOp, resolve, sRb, Sem.run_pure, rAo, invoke, builtin]
            simp only [List.map_toArray, List.map_cons, List.map_nil, h1, h2, Builtin.min_]
            rfl
          · simp only [Rep, cond_false]
            by_cases hlt : n < m <;> simp [hlt]
        · cases h
      · cases h
    · cases hc
   case len =>
    simp only [Ah] at hc
    split at hc
    · rename_i x t hx hy
      have ha : args = #[x] := by apply Array.ext'; rw [hx]
      have hat : ats = #[t] := by apply Array.ext'; rw [hy]
      subst ha; subst hat
      have fin : ∀ (v : AVal) (n : Int), Rep F bs s.H w v (a.eval x) → A0w v = some n → (∃ d, P.underlying t = some d ∧ ((d = .string ∧ ∃ s, v = .str s) ∨ ((∃ e, d = .slice e) ∧ ∀ s, v ≠ .str s))) →
       Cf P W0 F bs s.H w ((execOp a.eval ⟨dst, .call { callee := .builtin .len, args := #[x], argTypes := #[t] }, ty, pos, after, guard⟩).run P w) (.val (.int .i64 n) s.H []) := by
       intro v n hv hn hd
       refine Cf.same hh (cv := .int .i64 n) ?_ (by simp [Rep])
       have := alen_ok (P := P) (T := ty) (xs := #[a.eval x]) (ts := #[t]) hv hn rfl rfl hd
       simp only [execOp, resolve, sRb, Sem.run_pure, rAo, invoke, builtin]
       simp only [List.map_toArray, List.map_cons, List.map_nil, this, rAo]
      split at hc
      · rename_i hu
        simp only [oBb, oBi, iS] at hc
        obtain ⟨x', hx', rfl⟩ := hc
        simp only [aop] at h
        split at h
        · rename_i l hl
          simp only [cond_true, iS] at h
          subst h
          exact fin _ _ (Az hg hs hx' hl) rfl ⟨_, hu, .inl ⟨rfl, _, rfl⟩⟩
        · cases h
        · cases h
      · rename_i e hu
        simp only [oBb, oBi, iS] at hc
        obtain ⟨x', hx', rfl⟩ := hc
        simp only [aop] at h
        split at h
        · cases h
        · rename_i p hns hp
          simp only [cond_false] at h
          split at h
          · rename_i n hn
            injection h with h; subst h
            refine fin _ _ (Az hg hs hx' hp) hn ⟨_, hu, .inr ⟨⟨e, rfl⟩, ?_⟩⟩
            intro s hs; exact hns s hs
          · cases h
        · cases h
      · cases hc
    · cases hc
theorem Yl {op : Op} {x : AOpd} (h : Ah P op = some (.pan x)) : ∃ y, op = .panic y ∧ Aa y = some x := by
 cases op <;> try (cases h; done)
 case panic y =>
  simp only [Ah, Option.map_eq_some_iff, AOp.pan.injEq] at h
  obtain ⟨z, hz, rfl⟩ := h
  exact ⟨y, rfl, hz⟩
 case typeAssert x t T b =>
  cases b
  · cases h
  · simp only [Ah] at h
    split at h
    · simp [oBi] at h
    · cases h
 case makeMap t r => cases r <;> simp [Ah] at h; cases hm : Nu P t <;> rw [hm] at h <;> simp at h
 case call c =>
  exfalso
  unfold Ah at h
  split at h <;> (try (rename_i heq; cases heq)) <;> (try (cases h; done)) <;> (repeat' (split at h)) <;> (try (cases h; done)) <;> simp [oBi] at h
 case slice t x lo hi m =>
  exfalso
  cases m with
  | some m => obtain ⟨_, _, _, _, _, _, _, _, _, h⟩ := Ph h; cases h
  | none =>
  simp only [Ah] at h <;> (repeat' (split at h)) <;> (try (cases h; done)) <;> simp [oBi] at h
 all_goals exfalso
 all_goals (simp only [Ah] at h)
 all_goals (repeat' (split at h))
 all_goals (try (cases h; done))
 all_goals (try (simp [oBi] at h; done))
 all_goals contradiction
end
end Go.Abs
namespace Go.Abs
open Go.RowKit
inductive Am where
 | normal
 | exit (id : Nat)
 | ret
abbrev CallF := FuncId → List AVal → Hz → Option (AVal × Hz)
def St.put (s : St) (dst : Option Nat) (v : AVal) (H : Hz) : Option St :=
 match dst with
 | none => some ⟨s.env, H, s.n⟩
 | some d => cond (Nat.blt d s.n && Nat.blt d 4094) (some ⟨Env.put 12 d v s.env, H, s.n⟩) none
def leB (p : Int × Int) : Bool := decide (p.1 ≤ p.2)
def Lq : List (Int × Int) → Bool
 | [] => true
 | p :: r => cond (leB p) (Lq r) false
def Vz (call : CallF) (H : Hz) : Option ARes → Option (AVal × Hz)
 | some (.val v H' side) => cond (Lq side) (some (v, H')) none
 | some (.skip H') => some (.tup [], H')
 | some (.call f args) => call f args H
 | none => none
def Bq (ops : Array Oper) (s : St) : Option (Nat × Bool) → Option Bool
 | none => some true
 | some (j, want) => match (ops[j]?).bind (·.dst) with
   | some d => match s.env.get d with
     | some (.bool b) => some (cond b want (not want))
     | some (.tup []) => some false
     | _ => none
   | none => none
def Wv (P : Program) (G : List (Nat × AVal)) (call : CallF) (ops : Array Oper) (o : Oper) (s : St) : Option St :=
 match Bq ops s o.guard with
 | some true => match Ah P o.op with
   | some op => match Vz call s.H (aop G s op) with
     | some (v, H') => s.put o.dst v H'
     | none => none
   | none => none
 | some false => s.put o.dst (.tup []) s.H
 | none => none
def Ri (P : Program) (G : List (Nat × AVal)) (call : CallF) (ops : Array Oper) : List Oper → St → Option St
 | [], s => some s
 | o :: r, s => match Wv P G call ops o s with
   | some s' => Ri P G call ops r s'
   | none => none
def W6 (body : St → Option (Am × St)) : Nat → St → Option (Am × St)
 | 0, _ => none
 | n + 1, s => match body s with
   | some (.normal, s') => W6 body n s'
   | r => r
def X4 (P : Program) (G : List (Nat × AVal)) (call : CallF) (draw : Array Oper → St → Option St) (ih : Code → St → Option (Am × St)) : Code → St → Option (Am × St)
 | .skip, s => some (.normal, s)
 | .region _ ops d, s => match cond d (draw ops s) (Ri P G call ops ops.toList s) with
   | some s' => some (.normal, s')
   | none => none
 | .seq x y, s => match ih x s with
   | some (.normal, s') => ih y s'
   | r => r
 | .cond c x y, s => match Aa c with
   | some c' => match ev G s c' with
     | some (.bool b) => cond b (ih x s) (ih y s)
     | _ => none
   | none => none
 | .block id c, s => match ih c s with
   | some (.exit j, s') => cond (Nat.beq j id) (some (.normal, s')) (some (.exit j, s'))
   | r => r
 | .loop c, s => W6 (ih c) 1000000 s
 | .exit id, s => some (.exit id, s)
 | .ret, s => some (.ret, s)
 | _, _ => none
def Q4 (P : Program) (G : List (Nat × AVal)) (call : CallF) (draw : Array Oper → St → Option St) : Nat → Code → St → Option (Am × St)
 | 0, _, _ => none
 | n + 1, c, s => X4 P G call draw (Q4 P G call draw n) c s
def Oc (P : Program) (s : St) : ResultVar → Option AVal
 | .tmp t => s.env.get t
 | .cell a t => match s.env.get a with
   | some p => match L2 P t with
     | some (n, agg) => Hy n agg s.H p
     | none => none
   | none => none
def D3 (P : Program) (s : St) : List ResultVar → Option (List AVal)
 | [] => some []
 | r :: rs => match Oc P s r with
   | some v => match D3 P s rs with
     | some vs => some (v :: vs)
     | none => none
   | none => none
def Hw : List AVal → AVal
 | [v] => v
 | vs => .tup vs
def Ed : Nat → List AVal → Env → Env
 | _, [], e => e
 | i, v :: r, e => Ed (i + 1) r (Env.put 12 i v e)
def E0 (k : Nat) : Nat → List AVal → List AVal
 | 0, _ => []
 | m + 1, cs => (cond (Nat.beq k 1) (cond (cs.headD .nilIf).one (cs.headD .nilIf) (.agg (cs.take k))) (.agg (cs.take k))) :: E0 k m (cs.drop k)
mutual
def frz (H : Hz) (n : Nat) : Nat → AVal → Option AVal
 | 0, _ => none
 | m + 1, v => match v with
   | .agg cs => match H6 H n m cs with
     | some cs' => some (.agg cs')
     | none => none
   | .tup cs => match H6 H n m cs with
     | some cs' => some (.tup cs')
     | none => none
   | .row k es => match H6 H n m es with
     | some es' => some (.row k es')
     | none => none
   | .hsl k id off len cap => cond (Nat.blt id n) (some (.hsl k id off len cap)) (cond (Nat.ble 1 k) (match H[id]? with
     | some (.cells _ cs false) => match H6 H n m (E0 k len (cs.drop off)) with
       | some es => some (.row k es)
       | none => none
     | some (.cells _ cs true) => cond (Nat.beq off 0 && Nat.beq (len * k) cs.length) (match H6 H n m (E0 k len cs) with
       | some es => some (.row k es)
       | none => none) none
     | _ => none) none)
   | .ptr id off => cond (Nat.blt id n) (some (.ptr id off)) none
   | .mref id => cond (Nat.blt id n) (some (.mref id)) none
   | .optr id off len => cond (Nat.blt id n) (some (.optr id off len)) none
   | .eptr e off => match frz H n m e with
     | some e' => some (.eptr e' off)
     | none => none
   | .fn f a c => match H6 H n m a with
     | some a' => match H6 H n m c with
       | some c' => some (.fn f a' c')
       | none => none
     | none => none
   | .iface t x => match frz H n m x with
     | some x' => some (.iface t x')
     | none => none
   | v => some v
def H6 (H : Hz) (n : Nat) : Nat → List AVal → Option (List AVal)
 | 0, _ => none
 | _ + 1, [] => some []
 | m + 1, v :: r => match frz H n m v with
   | some v' => match H6 H n m r with
     | some r' => some (v' :: r')
     | none => none
   | none => none
end
mutual
def blw (n : Nat) : AVal → Bool
 | .agg cs => A8 n cs
 | .tup cs => A8 n cs
 | .row _ es => A8 n es
 | .hsl _ id _ _ _ => Nat.blt id n
 | .ptr id _ => Nat.blt id n
 | .mref id => Nat.blt id n
 | .optr id _ _ => Nat.blt id n
 | .eptr e _ => blw n e
 | .fn _ a c => cond (A8 n a) (A8 n c) false
 | .iface _ x => blw n x
 | _ => true
def A8 (n : Nat) : List AVal → Bool
 | [] => true
 | v :: r => cond (blw n v) (A8 n r) false
end
def B2 (n : Nat) : Hz → Bool
 | [] => true
 | .cells _ cs _ :: r => cond (A8 n cs) (B2 n r) false
 | _ :: r => B2 n r
def J4 (n : Nat) (v : AVal) (H : Hz) : AVal × Hz :=
 cond (Nat.ble H.length n) (v, H) (cond (B2 n (H.take n)) (match frz H n 100000 v with
  | some v' => (v', H.take n)
  | none => (v, H)) (v, H))
def A1 (P : Program) (W0 : World) (f : FuncId) (args : List AVal) (H : Hz) (v : AVal) (H' : Hz) : Prop :=
 E1 P f ∧ ∀ (F : Nat → Prop) (bs : List Nat) (w : World) (cargs : List Value), A7 W0 F bs H w → A5 F bs H w args cargs →
  Calls P f cargs.toArray w fun e w' => ∃ cv bs', e = .returned cv ∧ Rep F bs' H' w' v cv ∧ A7 W0 F bs' H' w' ∧ Ext bs H w bs' H' w'
section
variable (P : Program) (W0 : World) (G : List (Nat × AVal)) (ops : Array Oper)
def Ou (s : St) (dst : Option Nat) (v : AVal) (H : Hz) (K : St → Prop) : Prop :=
 match dst with
 | none => K ⟨s.env, H, s.n⟩
 | some d => (Nat.blt d s.n && Nat.blt d 4094) = true ∧ K ⟨Env.put 12 d v s.env, H, s.n⟩
def H7 (H : Hz) (r : Option ARes) (K : AVal → Hz → Prop) : Prop :=
 match r with
 | some (.val v H' side) => Af side ∧ K v H'
 | some (.skip H') => K (.tup []) H'
 | some (.call f args) => ∃ v H', A1 P W0 f args H v H' ∧ K v H'
 | none => False
def Gu (o : Oper) (s : St) (K : St → Prop) : Prop :=
 match Bq ops s o.guard with
 | some true => match Ah P o.op with
   | some op => H7 P W0 s.H (aop G s op) fun v H' => Ou s o.dst v H' K
   | none => False
 | some false => Ou s o.dst (.tup []) s.H K
 | none => False
def K1 : List Oper → St → (St → Prop) → Prop
 | [], s, K => K s
 | o :: r, s, K => Gu P W0 G ops o s fun s' => K1 r s' K
end
section
variable {P : Program} {W0 : World} {G : List (Nat × AVal)} {F : Nat → Prop} {bs : List Nat} {s : St} {a : Act} {w : World} {ops : Array Oper}
theorem RS.put (hs : RS W0 F bs s a w) {bs' : List Nat} {H' : Hz} {w' : World} {v : AVal} {cv : Value} (hv : Rep F bs' H' w' v cv) (hh : A7 W0 F bs' H' w') (he : Ext bs s.H w bs' H' w')
 {dst : Option Tmp} {K : St → Prop} (h : Ou s dst v H' K) : ∃ s', K s' ∧ RS W0 F bs' s' (a.put dst cv) w' ∧ s'.H = H' := by
 cases dst with
 | none => exact ⟨_, h, ⟨hh, hs.size, fun t u hu => (hs.env t u hu).ext he⟩, rfl⟩
 | some d =>
   obtain ⟨hd, hk⟩ := h
   have hd : d < s.n ∧ d < 4094 := by simpa [Nat.blt_eq] using hd
   refine ⟨_, hk, ⟨hh, by simp [Act.put, hs.size], fun t u hu => ?_⟩, rfl⟩
   rw [Env.get_put 12 d v s.env t (Nat.add_le_add_right (Nat.le_of_lt hd.2) 2)] at hu
   by_cases htd : t = d
   · subst htd
     rw [if_pos rfl] at hu
     injection hu with hu
     subst hu
     have hget : (a.put (some t) cv).tmps.getD t undef = cv := by
      simp only [Act.put, Array.getD_eq_getD_getElem?]
      rw [Array.getElem?_setIfInBounds_self_of_lt (by rw [hs.size]; exact hd.1)]; rfl
     rw [hget]; exact hv
   · rw [if_neg htd] at hu
     have hget : (a.put (some d) cv).tmps.getD t undef = a.tmps.getD t undef := by
      simp only [Act.put, Array.getD_eq_getD_getElem?]
      rw [Array.getElem?_setIfInBounds_ne (fun e => htd e.symm)]
     rw [hget]
     exact (hs.env t u hu).ext he
theorem O2 (hs : RS W0 F bs s a w) {o : Oper} {b : Bool} (h : Bq ops s o.guard = some b) : Region.wanted o (yielded ops a.tmps) = b := by
 unfold Region.wanted
 cases hg : o.guard with
 | none => rw [hg] at h; simp only [Bq, iS] at h; exact h
 | some gw =>
   obtain ⟨j, want⟩ := gw
   rw [hg] at h
   simp only [Bq] at h
   cases hd : (ops[j]?).bind (·.dst) with
   | none => rw [hd] at h; cases h
   | some d =>
     rw [hd] at h
     simp only at h
     have hy : yielded ops a.tmps j = match a.tmps[d]? with | some (.bool b) => some b | _ => none := by
      simp only [yielded, hd, Option.bind_some]
      cases a.tmps[d]? with
      | none => rfl
      | some x => cases x <;> rfl
     show (yielded ops a.tmps j == some want) = b
     rw [hy]
     split at h
     · rename_i c hc
       have hr := hs.env d _ hc
       simp only [Rep] at hr
       have ht : a.tmps[d]? = some (.bool c) := by
        cases hx : a.tmps[d]? with
        | none => simp [Array.getD_eq_getD_getElem?, hx, undef] at hr
        | some x => simp [Array.getD_eq_getD_getElem?, hx] at hr; rw [hr]
       rw [ht]
       injection h with h
       subst h
       cases c <;> cases want <;> rfl
     · rename_i hc
       have hr := hs.env d _ hc
       simp only [Rep, A5] at hr
       obtain ⟨vs, hv, rfl⟩ := hr
       injection h with h
       subst h
       cases hx : a.tmps[d]? with
       | none => rfl
       | some x => simp [Array.getD_eq_getD_getElem?, hx] at hv; rw [hv]; rfl
     · cases h
theorem J1 (hg : GOK W0 G) (hs : RS W0 F bs s a w) {o : Oper} {K : St → Prop} (h : Gu P W0 G ops o s K) {next : Act → World → Prop} {Q : Exit → Act → World → Prop}
 (hn : ∀ s' bs' a' w', K s' → RS W0 F bs' s' a' w' → Ext bs s.H w bs' s'.H w' → a'.defers = a.defers → next a' w') :
 if Region.wanted o (yielded ops a.tmps) then o.wp P a w next Q ∨ (o.asks P a w ∧ LetsOut Q) else next (a.put o.dst undef) w := by
 have hput : ∀ (dst : Option Tmp) (v : Value), (a.put dst v).defers = a.defers := fun dst v => by cases dst <;> rfl
 unfold Gu at h
 split at h
 · rename_i hgd
   rw [O2 hs hgd]
   simp only [if_true]
   refine .inl ?_
   split at h
   · rename_i op hop
     cases hr : aop G s op with
     | none => rw [hr] at h; exact h.elim
     | some r =>
       rw [hr] at h
       have hok := V2 (P := P) hg hs hop hr
       cases r with
       | val v H' side =>
         obtain ⟨hsd, hk⟩ := h
         obtain ⟨cv, w', bs', h1, h2, h3, h4⟩ := hok hsd
         obtain ⟨s', hK, hrs, hH⟩ := hs.put h2 h3 h4 hk
         unfold Oper.wp
         rw [h1, Oper.upon_value]
         exact hn s' bs' _ _ hK hrs (hH ▸ h4) (hput _ _)
       | skip H' =>
         obtain ⟨w', bs', h1, h3, h4⟩ := hok
         obtain ⟨s', hK, hrs, hH⟩ := hs.put (v := .tup []) (cv := undef) (by simp only [Rep]; exact ⟨[], rfl, by simp [A5]⟩) h3 h4 h
         unfold Oper.wp
         rw [h1, Oper.upon_skip]
         exact hn s' bs' _ _ hK hrs (hH ▸ h4) (hput _ _)
       | call f args =>
         obtain ⟨v, H', hc, hk⟩ := h
         obtain ⟨cargs, h1, h2⟩ := hok hc.1
         unfold Oper.wp
         rw [h1, Oper.upon_enter]
         refine Calls.mono (hc.2 F bs w cargs hs.heap h2) fun e w' he => ?_
         obtain ⟨cv, bs', rfl, h2', h3, h4⟩ := he
         obtain ⟨s', hK, hrs, hH⟩ := hs.put h2' h3 h4 hk
         exact hn s' bs' _ _ hK hrs (hH ▸ h4) (hput _ _)
   · exact h.elim
 · rename_i hgd
   rw [O2 hs hgd]
   simp only [bFt, if_false]
   obtain ⟨s', hK, hrs, hH⟩ := hs.put (v := .tup []) (cv := undef) (by simp only [Rep]; exact ⟨[], rfl, by simp [A5]⟩) hs.heap (Ext.refl _ _ _) h
   exact hn s' bs _ _ hK hrs (hH ▸ Ext.refl _ _ _) (hput _ _)
 · exact h.elim
theorem Tz (hg : GOK W0 G) : ∀ (l : List Oper) (i : Nat), ops.toList.drop i = l → ∀ {bs : List Nat} {s : St} {a : Act} {w : World}, RS W0 F bs s a w → ∀ {K : St → Prop}, K1 P W0 G ops l s K → ∀ {Q : Exit → Act → World → Prop},
 (∀ s' bs' a' w', K s' → RS W0 F bs' s' a' w' → Ext bs s.H w bs' s'.H w' → a'.defers = a.defers → Q .normal a' w') → wpOps P ops Q (List.range' i l.length) a w
 | [], i, _, bs, s, a, w, hs, K, h, Q, hn => by
   simp only [lNi, List.range'_zero, wpOps]
   exact hn s bs a w h hs (Ext.refl _ _ _) rfl
 | o :: r, i, hd, bs, s, a, w, hs, K, h, Q, hn => by
   have hi : ops[i]? = some o := by
    have h0 := congrArg (fun l => l[0]?) hd
    simp only [List.getElem?_drop, Nat.add_zero, List.getElem?_cons_zero, Array.getElem?_toList] at h0
    exact h0
   have hr : ops.toList.drop (i + 1) = r := by
    have := congrArg (List.drop 1) hd
    simpa [List.drop_drop] using this
   simp only [lCo, List.range'_succ, wpOps, hi]
   simp only [K1] at h
   refine J1 hg hs h fun s' bs' a' w' hk hrs hext hdf => ?_
   exact Tz hg r (i + 1) hr hrs hk fun s'' bs'' a'' w'' h1 h2 h3 h4 => hn s'' bs'' a'' w'' h1 h2 (hext.trans h3) (h4.trans hdf)
end
def convE : Am → Exit
 | .normal => .normal
 | .exit id => .exit id
 | .ret => .ret
def Ex (P : Program) (W0 : World) (c : Code) (s : St) (K : Am → St → Prop) : Prop :=
 ∀ (F : Nat → Prop) (bs : List Nat) (a : Act) (w : World), RS W0 F bs s a w → ∀ Q : Exit → Act → World → Prop,
  (∀ e s' bs' a' w', K e s' → RS W0 F bs' s' a' w' → Ext bs s.H w bs' s'.H w' → a'.defers = a.defers → Q (convE e) a' w') → c.wp P Q a w
abbrev Am.then (e : Am) (s : St) (next : St → Prop) (K : Am → St → Prop) : Prop :=
 match e with
 | .normal => next s
 | e => K e s
abbrev Am.inBlock (id : Nat) (K : Am → St → Prop) (e : Am) (s : St) : Prop :=
 match e with
 | .exit j => cond (Nat.beq j id) (K .normal s) (K (.exit j) s)
 | e => K e s
theorem Gp {P : Program} {c : Code} {Q : Exit → Act → World → Prop} {σ : Type} (R : σ → Act → World → Prop) (μ : σ → Nat) {s : σ} {a : Act} {w : World} (h₀ : R s a w)
 (round : ∀ s a w, R s a w → c.wp P (Exit.then (fun a' w' => ∃ s', R s' a' w' ∧ μ s' < μ s) Q) a w) : (Code.loop c).wp P Q a w := by
 intro b k cs
 have key : ∀ n s a w, μ s = n → R s a w →
  ∃ e a' w', Q e a' w' ∧ Arrives P (lone (b.at a (.code c :: .inLoop c :: k)) cs w) b k cs e a' w' := by
  intro n
  induction n using Nat.strongRecOn with
  | _ n ih =>
    intro s a w hn hI
    obtain ⟨e, a₁, w₁, hq, harr⟩ := round s a w hI b (.inLoop c :: k) cs
    cases e with
    | normal =>
      obtain ⟨s₁, hI₁, hlt⟩ := hq
      obtain ⟨e₂, a₂, w₂, hq₂, harr₂⟩ := ih (μ s₁) (hn ▸ hlt) s₁ a₁ w₁ rfl hI₁
      exact ⟨e₂, a₂, w₂, hq₂, .of_steps (Steps.trans harr (.one step_inLoop)) harr₂⟩
    | exit id => exact ⟨_, a₁, w₁, hq, .pass (x := .inLoop c) rfl (fun _ _ => .inl (by simp)) harr⟩
    | goto l => exact ⟨_, a₁, w₁, hq, .pass (x := .inLoop c) rfl (fun _ _ => .inl (by simp)) harr⟩
    | ret => exact ⟨_, a₁, w₁, hq, .pass (x := .inLoop c) rfl (fun _ _ => .inl (by simp)) harr⟩
    | panic ch => exact ⟨_, a₁, w₁, hq, .pass (x := .inLoop c) rfl (fun _ _ => .inl (by simp)) harr⟩
    | outgrown => exact ⟨_, a₁, w₁, hq, .pass (x := .inLoop c) rfl (fun _ _ => .inl (by simp)) harr⟩
 obtain ⟨e, a', w', hq, harr⟩ := key _ s a w rfl h₀
 exact ⟨e, a', w', hq, .of_steps (.one step_loop) harr⟩
section
variable {P : Program} {W0 : World} {G : List (Nat × AVal)} {s : St} {K : Am → St → Prop}
theorem Ex.mono {c : Code} {K' : Am → St → Prop} (h : Ex P W0 c s K) (hk : ∀ e s', K e s' → K' e s') : Ex P W0 c s K' :=
 fun F bs a w hs Q hq => h F bs a w hs Q fun e s' bs' a' w' k => hq e s' bs' a' w' (hk e s' k)
theorem Ex.skip (h : K .normal s) : Ex P W0 .skip s K := fun _ bs a w hs _ hq => wp_skip (hq .normal s bs a w h hs (Ext.refl _ _ _) rfl)
theorem Ex.exit {id : Nat} (h : K (.exit id) s) : Ex P W0 (.exit id) s K := fun _ bs a w hs _ hq => wp_exit (hq (.exit id) s bs a w h hs (Ext.refl _ _ _) rfl)
theorem Ex.ret (h : K .ret s) : Ex P W0 .ret s K := fun _ bs a w hs _ hq => wp_ret (hq .ret s bs a w h hs (Ext.refl _ _ _) rfl)
theorem Ex.region (hg : GOK W0 G) {id : Nat} {ops : Array Oper} (h : K1 P W0 G ops ops.toList s (K .normal)) : Ex P W0 (.region id ops false) s K :=
 fun _ bs a w hs Q hq => wp_region (by
  have := Tz (P := P) hg ops.toList 0 (by simp) hs h (Q := Q) fun s' bs' a' w' hk => hq .normal s' bs' a' w' hk
  simpa [List.range_eq_range'] using this)
theorem Ex.seq {x y : Code} (h : Ex P W0 x s fun e s' => e.then s' (fun s' => Ex P W0 y s' K) K) : Ex P W0 (.seq x y) s K :=
 fun F bs a w hs Q hq => wp_seq (h F bs a w hs _ fun e s' bs' a' w' hk hrs hext hd => by
  cases e with
  | normal => exact hk F bs' a' w' hrs Q fun e2 s2 bs2 a2 w2 h1 h2 h3 h4 => hq e2 s2 bs2 a2 w2 h1 h2 (hext.trans h3) (h4.trans hd)
  | exit id => exact hq (.exit id) s' bs' a' w' hk hrs hext hd
  | ret => exact hq .ret s' bs' a' w' hk hrs hext hd)
theorem Ex.cond (hg : GOK W0 G) {c : Operand} {c' : AOpd} {x y : Code} {b : Bool} (hc : Aa c = some c') (hv : ev G s c' = some (.bool b)) (ht : b = true → Ex P W0 x s K) (hf : b = false → Ex P W0 y s K) :
 Ex P W0 (.cond c x y) s K :=
 fun F bs a w hs Q hq => wp_cond_split (t := b) (by have := Az hg hs hc hv; simpa only [Rep] using this) (fun h => ht h F bs a w hs Q hq) (fun h => hf h F bs a w hs Q hq)
theorem Ex.block {id : Nat} {c : Code} (h : Ex P W0 c s (Am.inBlock id K)) : Ex P W0 (.block id c) s K :=
 fun F bs a w hs Q hq => wp_block (h F bs a w hs _ fun e s' bs' a' w' hk hrs hext hd => by
  cases e with
  | normal => exact hq .normal s' bs' a' w' hk hrs hext hd
  | ret => exact hq .ret s' bs' a' w' hk hrs hext hd
  | exit j =>
    simp only [Am.inBlock] at hk
    show if j = id then Q .normal a' w' else Q (.exit j) a' w'
    cases hj : Nat.beq j id with
    | true =>
      rw [hj] at hk
      rw [if_pos (nBq hj)]
      exact hq .normal s' bs' a' w' hk hrs hext hd
    | false =>
      rw [hj] at hk
      rw [if_neg (Nat.ne_of_beq_eq_false hj)]
      exact hq (.exit j) s' bs' a' w' hk hrs hext hd)
theorem Ex.loop {c : Code} {σ : Type} (I : σ → St → Prop) (μ : σ → Nat) {i : σ} (h0 : I i s)
 (round : ∀ i s, I i s → Ex P W0 c s fun e s' => e.then s' (fun s' => ∃ j, I j s' ∧ μ j < μ i) K) : Ex P W0 (.loop c) s K :=
 fun F bs a w hs Q hq => by
  refine Gp (σ := σ) (fun i a' w' => ∃ s' bs', I i s' ∧ RS W0 F bs' s' a' w' ∧ Ext bs s.H w bs' s'.H w' ∧ a'.defers = a.defers) μ (s := i) ⟨s, bs, h0, hs, Ext.refl _ _ _, rfl⟩ ?_
  rintro i a1 w1 ⟨s1, bs1, hi, hrs1, hext1, hd1⟩
  refine round i s1 hi F bs1 a1 w1 hrs1 _ fun e s' bs' a' w' hk hrs hext hd => ?_
  cases e with
  | normal =>
    obtain ⟨j, hj, hlt⟩ := hk
    exact ⟨j, ⟨s', bs', hj, hrs, hext1.trans hext, hd.trans hd1⟩, hlt⟩
  | exit id => exact hq (.exit id) s' bs' a' w' hk hrs (hext1.trans hext) (hd.trans hd1)
  | ret => exact hq .ret s' bs' a' w' hk hrs (hext1.trans hext) (hd.trans hd1)
def Do (P : Program) (W0 : World) (call : CallF) : Prop := ∀ f args H v H', call f args H = some (v, H') → A1 P W0 f args H v H'
theorem leB_le {p : Int × Int} (h : leB p = true) : p.1 ≤ p.2 := by simpa [leB] using h
theorem Nh : ∀ {l : List (Int × Int)}, Lq l = true → Af l
 | [], _ => trivial
 | p :: r, h => by
   simp only [Lq] at h
   cases hp : leB p with
   | false => rw [hp] at h; cases h
   | true => rw [hp] at h; exact ⟨leB_le hp, Nh h⟩
theorem St.put_putP {s s' : St} {dst : Option Nat} {v : AVal} {H : Hz} {K : St → Prop} (h : s.put dst v H = some s') (hk : K s') : Ou s dst v H K := by
 cases dst with
 | none => simp only [St.put, iS] at h; subst h; exact hk
 | some d =>
   simp only [St.put] at h
   cases hd : (Nat.blt d s.n && Nat.blt d 4094) with
   | false => rw [hd] at h; cases h
   | true => rw [hd, cond_true, iS] at h; subst h; exact ⟨hd, hk⟩
theorem Uz {call : CallF} (hc : Do P W0 call) {ops : Array Oper} {o : Oper} {s s' : St} (h : Wv P G call ops o s = some s') {K : St → Prop} (hk : K s') : Gu P W0 G ops o s K := by
 unfold Wv at h
 unfold Gu
 cases hgd : Bq ops s o.guard with
 | none => rw [hgd] at h; cases h
 | some b =>
   rw [hgd] at h
   cases b with
   | false => exact St.put_putP h hk
   | true =>
     simp only at h ⊢
     cases hop : Ah P o.op with
     | none => rw [hop] at h; cases h
     | some op =>
       rw [hop] at h
       simp only at h ⊢
       cases hr : aop G s op with
       | none => rw [hr] at h; cases h
       | some r =>
         rw [hr] at h
         cases r with
         | val v H' side =>
           simp only [Vz] at h
           cases hsd : Lq side with
           | false => rw [hsd] at h; cases h
           | true => rw [hsd] at h; exact ⟨Nh hsd, St.put_putP h hk⟩
         | skip H' => exact St.put_putP h hk
         | call f args =>
           simp only [Vz] at h
           cases hcr : call f args s.H with
           | none => rw [hcr] at h; cases h
           | some p =>
             obtain ⟨v, H'⟩ := p
             rw [hcr] at h
             exact ⟨v, H', hc _ _ _ _ _ hcr, St.put_putP h hk⟩
theorem Xb {call : CallF} (hc : Do P W0 call) {ops : Array Oper} : ∀ {l : List Oper} {s s' : St}, Ri P G call ops l s = some s' → ∀ {K : St → Prop}, K s' → K1 P W0 G ops l s K
 | [], s, s', h, K, hk => by simp only [Ri, iS] at h; subst h; exact hk
 | o :: r, s, s', h, K, hk => by
   simp only [Ri] at h
   split at h
   · rename_i s1 h1
     exact Uz hc h1 (Xb hc h hk)
   · cases h
def Z2 (P : Program) (W0 : World) (draw : Array Oper → St → Option St) : Prop := ∀ id ops s s', draw ops s = some s' → ∀ K : Am → St → Prop, K .normal s' → Ex P W0 (.region id ops true) s K
theorem A37 {c : Code} {body : St → Option (Am × St)} (hb : ∀ s e s', body s = some (e, s') → Ex P W0 c s fun e1 s1 => e1 = e ∧ s1 = s') {n : Nat} {s : St} {e : Am} {s' : St} (h : W6 body n s = some (e, s')) :
 Ex P W0 (.loop c) s fun e1 s1 => e1 = e ∧ s1 = s' := by
 refine Ex.loop (σ := Nat) (fun n s => W6 body n s = some (e, s')) id (i := n) h ?_
 intro n s h
 cases n with
 | zero => cases h
 | succ n =>
   simp only [W6] at h
   split at h
   · rename_i s1 h1
     refine (hb _ _ _ h1).mono ?_
     rintro e2 s2 ⟨rfl, rfl⟩
     exact ⟨n, h, Nat.lt_succ_self n⟩
   · rename_i hne
     refine (hb _ _ _ h).mono ?_
     rintro e2 s2 ⟨rfl, rfl⟩
     cases e2 with
     | normal => exact absurd h (hne s2)
     | exit id => exact ⟨rfl, rfl⟩
     | ret => exact ⟨rfl, rfl⟩
theorem Jn (hg : GOK W0 G) {call : CallF} (hc : Do P W0 call) {draw : Array Oper → St → Option St} (hdr : Z2 P W0 draw) : ∀ (n : Nat) {c : Code} {s : St} {e : Am} {s' : St}, Q4 P G call draw n c s = some (e, s') →
 Ex P W0 c s fun e1 s1 => e1 = e ∧ s1 = s'
 | 0, _, _, _, _, h => by cases h
 | n + 1, c, s, e, s', h => by
   have ih := @Jn hg call hc draw hdr n
   simp only [Q4] at h
   cases c <;> simp only [X4] at h <;> try (cases h; done)
   case skip => injection h with h; injection h with h1 h2; subst h1; subst h2; exact Ex.skip ⟨rfl, rfl⟩
   case exit id => injection h with h; injection h with h1 h2; subst h1; subst h2; exact Ex.exit ⟨rfl, rfl⟩
   case ret => injection h with h; injection h with h1 h2; subst h1; subst h2; exact Ex.ret ⟨rfl, rfl⟩
   case region id ops d =>
    split at h
    · rename_i s1 h1
      injection h with h; injection h with h2 h3; subst h2; subst h3
      cases d with
      | true => exact hdr id ops s s1 h1 _ ⟨rfl, rfl⟩
      | false => exact Ex.region hg (Xb hc h1 ⟨rfl, rfl⟩)
    · cases h
   case seq x y =>
    split at h
    · rename_i s1 h1
      refine Ex.seq ((ih h1).mono ?_)
      rintro e2 s2 ⟨rfl, rfl⟩
      exact ih h
    · rename_i hne
      refine Ex.seq ((ih h).mono ?_)
      rintro e2 s2 ⟨rfl, rfl⟩
      cases e2 with
      | normal => exact absurd h (hne s2)
      | exit id => exact ⟨rfl, rfl⟩
      | ret => exact ⟨rfl, rfl⟩
   case cond c x y =>
    split at h
    · rename_i c' hc'
      split at h
      · rename_i b hb
        refine Ex.cond hg hc' hb ?_ ?_
        · rintro rfl; exact ih h
        · rintro rfl; exact ih h
      · cases h
    · cases h
   case block id c =>
    split at h
    · rename_i j s1 h1
      refine Ex.block ((ih h1).mono ?_)
      rintro e2 s2 ⟨rfl, rfl⟩
      simp only [Am.inBlock]
      cases hj : Nat.beq j id with
      | true => rw [hj] at h; injection h with h; injection h with h2 h3; exact ⟨h2, h3⟩
      | false => rw [hj] at h; injection h with h; injection h with h2 h3; exact ⟨h2, h3⟩
    · rename_i hne
      refine Ex.block ((ih h).mono ?_)
      rintro e2 s2 ⟨rfl, rfl⟩
      cases e2 with
      | normal => exact ⟨rfl, rfl⟩
      | exit id => exact absurd h (hne id s2)
      | ret => exact ⟨rfl, rfl⟩
   case loop c => exact A37 (fun s e s' h => ih h) h
end
end Go.Abs
