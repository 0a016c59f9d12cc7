/- A part of the proof that tabula/tabulalaw25.PackTexts returns true for every input, each argument reading as it did (its card: the last text). No conditions of its own. -/
import Derived.Test.YtpjknnnomkkloaaGreatDoorPD
namespace Go.Abs
open Go.RowKit
inductive Ob where
 | eq (b c : Bool)
 | le (a b : Int)
 | call (f : Nat) (args : List AVal) (v : AVal)
 | callH (f : Nat) (args : List AVal) (H : Hz) (v : AVal) (H' : Hz)
 | hp (A B : Hz)
 | veq (a b : AVal)
def Ob.ok (P : Program) (W0 : World) : Ob → Prop
 | .eq b c => b = c
 | .le a b => a ≤ b
 | .call f args v => A1 P W0 f args [] v []
 | .callH f args H v H' => A1 P W0 f args H v H'
 | .hp A B => A = B
 | .veq a b => a = b
structure SS where
 k : Nat
 br : List (Bool × Nat)
 sk : Nat
 sd : List Nat
 ans : List (AVal × Option Hz)
 dr : List Nat
 obs : List Ob
def decS (b : Bool) (ss : SS) : Option (Bool × SS) :=
 match ss.k with
 | 0 => match ss.br with
   | (c, n) :: r => some (c, ⟨n, r, ss.sk, ss.sd, ss.ans, ss.dr, .eq b c :: ss.obs⟩)
   | [] => none
 | n + 1 => some (b, ⟨n, ss.br, ss.sk, ss.sd, ss.ans, ss.dr, ss.obs⟩)
def W7 : List (Int × Int) → List Ob → List Ob
 | [], l => l
 | p :: r, l => .le p.1 p.2 :: W7 r l
def A22 (side : List (Int × Int)) (ss : SS) : Option SS :=
 match side with
 | [] => some ss
 | _ => match ss.sk with
   | 0 => match ss.sd with
     | n :: r => some ⟨ss.k, ss.br, n, r, ss.ans, ss.dr, W7 side ss.obs⟩
     | [] => none
   | n + 1 => cond (Lq side) (some ⟨ss.k, ss.br, n, ss.sd, ss.ans, ss.dr, ss.obs⟩) none
abbrev CallS := FuncId → List AVal → Hz → SS → Option (AVal × Hz × SS)
def A2r : AOp → Bool
 | .bin op _ _ _ => match op with
   | .eql | .neq | .lss | .leq | .gtr | .geq => true
   | _ => false
 | .eqs _ _ _ _ => true
 | _ => false
def X1 (call : CallS) (cmp : Bool) (H : Hz) (ss : SS) : Option ARes → Option (AVal × Hz × SS)
 | some (.val v H' side) => match A22 side ss with
   | some s1 => cond cmp (match v with
     | .bool b => match decS b s1 with
       | some (c, s2) => some (.bool c, H', s2)
       | none => none
     | _ => none) (some (v, H', s1))
   | none => none
 | some (.skip H') => some (.tup [], H', ss)
 | some (.call f args) => call f args H ss
 | none => none
def Uh (P : Program) (G : List (Nat × AVal)) (call : CallS) (ops : Array Oper) (o : Oper) (s : St) (ss : SS) : Option (St × SS) :=
 match Bq ops s o.guard with
 | some true => match Ah P o.op with
   | some op => match X1 call (A2r op) s.H ss (aop G s op) with
     | some (v, H', s1) => match s.put o.dst v H' with
       | some t => some (t, s1)
       | none => none
     | none => none
   | none => none
 | some false => match s.put o.dst (.tup []) s.H with
   | some t => some (t, ss)
   | none => none
 | none => none
def Nr (P : Program) (G : List (Nat × AVal)) (call : CallS) (ops : Array Oper) : List Oper → St → SS → Option (St × SS)
 | [], s, ss => some (s, ss)
 | o :: r, s, ss => match Uh P G call ops o s ss with
   | some (t, s1) => Nr P G call ops r t s1
   | none => none
def Zj (G : List (Nat × AVal)) (call : CallS) (o : AOper) (s : St) (ss : SS) : Option (AVal × Hz × SS) :=
 match o.guard with
 | none => X1 call (A2r o.op) s.H ss (aop G s o.op)
 | some (d, want) => match s.env.get d with
   | some (.bool b) => cond (cond b want (not want)) (X1 call (A2r o.op) s.H ss (aop G s o.op)) (some (.tup [], s.H, ss))
   | some (.tup []) => some (.tup [], s.H, ss)
   | _ => none
def A1d (G : List (Nat × AVal)) (call : CallS) (p : SP) (n : Nat) : List AOper → Nat → Env → Nat → Hz → HMap → SS → Option (List Tr × HMap × Env × SS)
 | [], _, e, _, _, M, ss => some ([], M, e, ss)
 | o :: r, j, e, σ, H, M, ss => match Et o.dst n with
   | true => match Zj G call o ⟨e, H, n⟩ ss with
     | some (v, H', s1) => match p.eff j with
       | true => match lkH (SP.nxt σ j) M with
         | none => match A1d G call p n r (j + 1) (Fa o.dst v e) (SP.nxt σ j) H' ((SP.nxt σ j, H') :: M) s1 with
           | some (l, rest) => some (⟨e, v, σ⟩ :: l, rest)
           | none => none
         | some _ => none
       | false => match A1d G call p n r (j + 1) (Fa o.dst v e) σ H M s1 with
         | some (l, rest) => some (⟨e, v, σ⟩ :: l, rest)
         | none => none
     | none => none
   | false => none
def SS.ob (ss : SS) (o : Ob) : SS := ⟨ss.k, ss.br, ss.sk, ss.sd, ss.ans, ss.dr, o :: ss.obs⟩
def SS.drop (ss : SS) : SS := ⟨ss.k, ss.br, ss.sk, ss.sd, ss.ans, ss.dr.tail, ss.obs⟩
def O6 (G : List (Nat × AVal)) (call : CallS) (n : Nat) (o : AOper) (t : Tr) (σ j : Nat) (M : HMap) (ss : SS) : Option (HMap × SS) :=
 match lkH σ M with
 | some H => match Zj G call o ⟨t.env, H, n⟩ ss with
   | some (v, H', s1) => match lkH (SP.nxt σ j) M with
     | some H'' => some (M, (s1.ob (.hp H' H'')).ob (.veq v t.v))
     | none => some ((SP.nxt σ j, H') :: M, s1.ob (.veq v t.v))
   | none => none
 | none => none
def J2 (t : Tr) (σ j : Nat) (M : HMap) (ss : SS) : Option (HMap × SS) :=
 match lkH σ M with
 | some H => match lkH t.σ M with
   | some Ht => match lkH (SP.nxt t.σ j) M with
     | some Ht' => match lkH (SP.nxt σ j) M with
       | some H'' => some (M, (ss.ob (.hp Ht' H'')).ob (.hp Ht H))
       | none => some ((SP.nxt σ j, Ht') :: M, ss.ob (.hp Ht H))
     | none => none
   | none => none
 | none => none
def Ve (G : List (Nat × AVal)) (e : Env) (n : Nat) : AOp → Option (Nat × List AVal)
 | .call f az' => match ev G ⟨e, [], n⟩ f with
   | some (.fn g first cap) => match evs G ⟨e, [], n⟩ az' with
     | some l => some (g, first ++ l ++ cap)
     | none => none
   | _ => none
 | _ => none
def Hm (G : List (Nat × AVal)) (n : Nat) (o : AOper) (t : Tr) (σ j : Nat) (M : HMap) (ss : SS) : Option (HMap × SS) :=
 match lkH σ M with
 | some H => match lkH t.σ M with
   | some Ht => match lkH (SP.nxt t.σ j) M with
     | some Ht' => match o.guard with
       | none => match Ve G t.env n o.op with
         | some (_, args) => cond (Nat.beq Ht'.length Ht.length && (B2 Ht.length Ht && A8 Ht.length args)) (match lkH (SP.nxt σ j) M with
           | some H'' => some (M, (ss.ob (.hp (Ht' ++ H.drop Ht.length) H'')).ob (.hp (Ht ++ H.drop Ht.length) H))
           | none => some ((SP.nxt σ j, Ht' ++ H.drop Ht.length) :: M, ss.ob (.hp (Ht ++ H.drop Ht.length) H))) none
         | none => none
       | some _ => none
     | none => none
   | none => none
 | none => none
def Jf (G : List (Nat × AVal)) (call : CallS) (n : Nat) (o : AOper) (t : Tr) (σ j : Nat) (M : HMap) (ss : SS) : Option (HMap × SS) :=
 cond (Nat.beq σ t.σ) (some (M, ss)) (match ss.dr with
  | 0 :: _ => O6 G call n o t σ j M ss.drop
  | 1 :: _ => J2 t σ j M ss.drop
  | _ :: _ => Hm G n o t σ j M ss.drop
  | [] => none)
def I2 (G : List (Nat × AVal)) (call : CallS) (n : Nat) (ops' : List AOper) (l : List Tr) (σ : Nat) : List Nat → HMap → SS → Option (HMap × SS)
 | [], M, ss => some (M, ss)
 | j :: r, M, ss => match ops'[j]? with
   | some o => match l[j]? with
     | some t => match Jf G call n o t σ j M ss with
       | some (M', s1) => I2 G call n ops' l σ r M' s1
       | none => none
     | none => none
   | none => none
def Gq (G : List (Nat × AVal)) (call : CallS) (p : SP) (n : Nat) (ops' : List AOper) (l : List Tr) : List Nat → HMap → SS → Option (HMap × SS)
 | [], M, ss => some (M, ss)
 | σ :: r, M, ss => match I2 G call n ops' l σ (p.steps σ) M ss with
   | some (M', s1) => Gq G call p n ops' l r M' s1
   | none => none
def exB (p : SP) (M : HMap) : Bool := p.states.all fun σ => (lkH σ M).isSome
def rdV : Option ARes → Option (AVal × List (Int × Int))
 | some (.val v _ side) => some (v, side)
 | _ => none
def rdS (G : List (Nat × AVal)) (o : AOper) (s : St) : Option (AVal × List (Int × Int)) :=
 match o.guard with
 | none => rdV (aop G s o.op)
 | some (d, want) => match s.env.get d with
   | some (.bool b) => cond (cond b want (not want)) (rdV (aop G s o.op)) (some (.tup [], []))
   | some (.tup []) => some (.tup [], [])
   | _ => none
def Jc (G : List (Nat × AVal)) (p : SP) (n : Nat) (M : HMap) (o : AOper) (t : Tr) (j : Nat) : List Nat → List Ob → Option (List Ob)
 | [], acc => some acc
 | σ :: r, acc => cond (Nat.beq σ t.σ) (Jc G p n M o t j r acc) (cond (p.mayB σ j) (match lkH σ M with
   | some H => match rdS G o ⟨t.env, H, n⟩ with
     | some (v, side) => Jc G p n M o t j r (.veq v t.v :: W7 side acc)
     | none => none
   | none => none) (Jc G p n M o t j r acc))
def P1 (G : List (Nat × AVal)) (p : SP) (n : Nat) (M : HMap) : List AOper → List Tr → Nat → List Ob → Option (List Ob)
 | o :: r, t :: l, j, acc => match cond (Nat.beq (p.kind.getD j 0) 1) (Jc G p n M o t j p.states acc) (some acc) with
   | some acc' => P1 G p n M r l (j + 1) acc'
   | none => none
 | _, _, _, acc => some acc
def Y6 (G : List (Nat × AVal)) (call : CallS) (p : SP) (l : List AOper) (s : St) (ss : SS) : Option (St × SS) :=
 match A1d G call p s.n l 0 s.env 0 s.H [(0, s.H)] ss with
 | some (trs, M, e, s1) => match Gq G call p s.n l trs p.states M s1 with
   | some (M', s2) => cond (exB p M') (match P1 G p s.n M' l trs 0 s2.obs with
     | some obs => match lkH p.fin M' with
       | some H => some (⟨e, H, s.n⟩, ⟨s2.k, s2.br, s2.sk, s2.sd, s2.ans, s2.dr, obs⟩)
       | none => none
     | none => none) none
   | none => none
 | none => none
def A3l (P : Program) (G : List (Nat × AVal)) (call : CallS) (ops : Array Oper) (s : St) (ss : SS) : Option (St × SS) :=
 match Aw P ops ops.toList with
 | some l => cond (H8 P ops (C3 P ops.toList)) (Y6 G call (C3 P ops.toList) l s ss) none
 | none => none
def loopS (body : St → SS → Option (Am × St × SS)) : Nat → St → SS → Option (Am × St × SS)
 | 0, _, _ => none
 | n + 1, s, ss => match body s ss with
   | some (.normal, s', s1) => loopS body n s' s1
   | r => r
def Tv (P : Program) (G : List (Nat × AVal)) (call : CallS) (ih : Code → St → SS → Option (Am × St × SS)) : Code → St → SS → Option (Am × St × SS)
 | .skip, s, ss => some (.normal, s, ss)
 | .region _ ops d, s, ss => match cond d (A3l P G call ops s ss) (Nr P G call ops ops.toList s ss) with
   | some (s', s1) => some (.normal, s', s1)
   | none => none
 | .seq x y, s, ss => match ih x s ss with
   | some (.normal, s', s1) => ih y s' s1
   | r => r
 | .cond c x y, s, ss => match Aa c with
   | some c' => match ev G s c' with
     | some (.bool b) => cond b (ih x s ss) (ih y s ss)
     | _ => none
   | none => none
 | .block id c, s, ss => match ih c s ss with
   | some (.exit j, s', s1) => cond (Nat.beq j id) (some (.normal, s', s1)) (some (.exit j, s', s1))
   | r => r
 | .loop c, s, ss => loopS (ih c) 1000000 s ss
 | .exit id, s, ss => some (.exit id, s, ss)
 | .ret, s, ss => some (.ret, s, ss)
 | _, _, _ => none
def S5 (P : Program) (G : List (Nat × AVal)) (call : CallS) : Nat → Code → St → SS → Option (Am × St × SS)
 | 0, _, _, _ => none
 | n + 1, c, s, ss => Tv P G call (S5 P G call n) c s ss
def finS (P : Program) (fn : Func) (kp : Bool) (H : Hz) : Option (Am × St × SS) → Option (AVal × Hz × SS)
 | some (e, s, ss) => match A36 P fn kp H (some (e, s)) with
   | some (v, H') => some (v, H', ss)
   | none => none
 | none => none
def A2d (P : Program) (G : List (Nat × AVal)) (call : CallS) (fuel : Nat) (b : DB) (s : St) (ss : SS) : Option (Am × St × SS) :=
 match S5 P G call fuel b.r0 s ss with
 | some (.normal, s0, t0) => match S5 P G call fuel b.r1 s0 t0 with
   | some (.normal, s1, t1) => match Uh P G call #[b.o0, b.o1] b.o0 s1 t1 with
     | some (s2, t2) => cond (A1a s2.env b.t b.g b.m) (S5 P G call fuel b.rest s2 t2) none
     | none => none
   | _ => none
 | _ => none
def ansS (f : Nat) (args : List AVal) (H : Hz) (ss : SS) : Option (AVal × Hz × SS) :=
 match ss.ans with
 | (v, none) :: r => cond (cond (A8 0 args) (blw 0 v) false) (some (v, H, ⟨ss.k, ss.br, ss.sk, ss.sd, r, ss.dr, .call f args v :: ss.obs⟩)) none
 | (v, some H') :: r => some (v, H', ⟨ss.k, ss.br, ss.sk, ss.sd, r, ss.dr, .callH f args H v H' :: ss.obs⟩)
 | [] => none
def Es (P : Program) (G : List (Nat × AVal)) (keep opq : Nat → Bool) (idle : Nat → Option Nat) (tab : CallF) (fuel : Nat) : Nat → CallS
 | 0, _, _, _, _ => none
 | d + 1, f, args, H, ss => cond (opq f) (ansS f args H ss) (match tab f args H with
   | some r => some (r.1, r.2, ss)
   | none => match P.funcs[f]? with
     | some fn => match fn.body with
       | some c => cond (Nat.ble args.length 4094 && !(fn.name == "runtime.NumGoroutine")) (finS P fn (keep f) H (match La idle c with
        | some b => A2d P G (Es P G keep opq idle tab fuel d) fuel b ⟨Ed 0 args .leaf, H, args.length + (fn.ntmps - args.length)⟩ ss
        | none => S5 P G (Es P G keep opq idle tab fuel d) fuel c ⟨Ed 0 args .leaf, H, args.length + (fn.ntmps - args.length)⟩ ss)) none
       | none => none
     | none => none)
def Gd (P : Program) (W0 : World) (ss : SS) : Prop := ∀ o ∈ ss.obs, o.ok P W0
def Ce (P : Program) (W0 : World) (call : CallS) : Prop := ∀ f args H ss v H' s1, call f args H ss = some (v, H', s1) → Gd P W0 s1 → Gd P W0 ss ∧ A1 P W0 f args H v H'
section
variable {P : Program} {W0 : World} {G : List (Nat × AVal)}
theorem decS_ok {b c : Bool} {ss s1 : SS} (h : decS b ss = some (c, s1)) (hg : Gd P W0 s1) : Gd P W0 ss ∧ b = c := by
 unfold decS at h
 split at h
 · split at h
   · injection h with h; injection h with h1 h2; subst h1; subst h2
     exact ⟨fun o ho => hg o (by simp [ho]), hg (.eq b _) (by simp)⟩
   · cases h
 · injection h with h; injection h with h1 h2; subst h1; subst h2
   exact ⟨hg, rfl⟩
theorem Qd : ∀ {l : List (Int × Int)} {obs : List Ob}, (∀ o ∈ W7 l obs, o.ok P W0) → (∀ o ∈ obs, o.ok P W0) ∧ Af l
 | [], _, h => ⟨h, trivial⟩
 | p :: r, obs, h => by
   simp only [W7, List.mem_cons] at h
   obtain ⟨h1, h2⟩ := Qd (l := r) fun o ho => h o (.inr ho)
   exact ⟨h1, h (.le p.1 p.2) (.inl rfl), h2⟩
theorem Xn {side : List (Int × Int)} {ss s1 : SS} (h : A22 side ss = some s1) (hg : Gd P W0 s1) : Gd P W0 ss ∧ Af side := by
 unfold A22 at h
 split at h
 · injection h with h; subst h; exact ⟨hg, trivial⟩
 · split at h
   · split at h
     · injection h with h; subst h
       exact Qd hg
     · cases h
   · cases hs : Lq side with
     | false => rw [hs] at h; cases h
     | true =>
       rw [hs, cond_true] at h
       injection h with h; subst h
       exact ⟨hg, Nh hs⟩
theorem Qz {call : CallS} (hc : Ce P W0 call) {cmp : Bool} {H H' : Hz} {ss s1 : SS} {r : Option ARes} {v : AVal} (h : X1 call cmp H ss r = some (v, H', s1)) (hg : Gd P W0 s1) : Gd P W0 ss ∧ H7 P W0 H r fun v' H'' => v' = v ∧ H'' = H' := by
 unfold X1 at h
 split at h
 · split at h
   · rename_i t ht
     cases cmp with
     | false =>
       simp only [cond_false, iS, iP] at h
       obtain ⟨rfl, rfl, rfl⟩ := h
       obtain ⟨h1, h2⟩ := Xn ht hg
       exact ⟨h1, h2, rfl, rfl⟩
     | true =>
       simp only [cond_true] at h
       split at h
       · split at h
         · rename_i c t2 hd
           simp only [iS, iP] at h
           obtain ⟨rfl, rfl, rfl⟩ := h
           obtain ⟨k1, k2⟩ := decS_ok hd hg
           obtain ⟨h1, h2⟩ := Xn ht k1
           subst k2
           exact ⟨h1, h2, rfl, rfl⟩
         · cases h
       · cases h
   · cases h
 · simp only [iS, iP] at h
   obtain ⟨rfl, rfl, rfl⟩ := h
   exact ⟨hg, rfl, rfl⟩
 · obtain ⟨h1, h2⟩ := hc _ _ _ _ _ _ _ h hg
   exact ⟨h1, _, _, h2, rfl, rfl⟩
 · cases h
theorem A1y {H : Hz} {r : Option ARes} {v : AVal} {H' : Hz} (h : H7 P W0 H r fun v' H'' => v' = v ∧ H'' = H') {K : AVal → Hz → Prop} (hk : K v H') : H7 P W0 H r K :=
 Sz (fun v' H'' ⟨e1, e2⟩ => by subst e1; subst e2; exact hk) h
theorem Ue {call : CallS} (hc : Ce P W0 call) {ops : Array Oper} {o : Oper} {s t : St} {ss s1 : SS} (h : Uh P G call ops o s ss = some (t, s1)) (hg : Gd P W0 s1) : Gd P W0 ss ∧ ∀ {K : St → Prop}, K t → Gu P W0 G ops o s K := by
 unfold Uh at h
 unfold Gu
 cases hgd : Bq ops s o.guard with
 | none => rw [hgd] at h; cases h
 | some b =>
   rw [hgd] at h
   cases b with
   | false =>
     simp only at h ⊢
     split at h
     · rename_i t' ht
       simp only [iS, iP] at h
       obtain ⟨rfl, rfl⟩ := h
       exact ⟨hg, fun hk => St.put_putP ht hk⟩
     · cases h
   | true =>
     simp only at h ⊢
     cases hop : Ah P o.op with
     | none => rw [hop] at h; cases h
     | some op =>
       rw [hop] at h
       simp only at h ⊢
       split at h
       · rename_i v H' t1 hr
         split at h
         · rename_i t' ht
           simp only [iS, iP] at h
           obtain ⟨rfl, rfl⟩ := h
           obtain ⟨h1, h2⟩ := Qz hc hr hg
           exact ⟨h1, fun hk => A1y h2 (St.put_putP ht hk)⟩
         · cases h
       · cases h
theorem Rh {call : CallS} (hc : Ce P W0 call) {ops : Array Oper} : ∀ {l : List Oper} {s t : St} {ss s1 : SS}, Nr P G call ops l s ss = some (t, s1) → Gd P W0 s1 → Gd P W0 ss ∧ ∀ {K : St → Prop}, K t → K1 P W0 G ops l s K
 | [], s, t, ss, s1, h, hg => by
   simp only [Nr, iS, iP] at h
   obtain ⟨rfl, rfl⟩ := h
   exact ⟨hg, fun hk => hk⟩
 | o :: r, s, t, ss, s1, h, hg => by
   simp only [Nr] at h
   split at h
   · rename_i t' s2 h1
     obtain ⟨k1, k2⟩ := Rh hc h hg
     obtain ⟨k3, k4⟩ := Ue hc h1 k1
     exact ⟨k3, fun hk => k4 (k2 hk)⟩
   · cases h
theorem Na {call : CallS} (hc : Ce P W0 call) {o : AOper} {s : St} {ss s1 : SS} {v : AVal} {H' : Hz} (h : Zj G call o s ss = some (v, H', s1)) (hg : Gd P W0 s1) : Gd P W0 ss ∧ B5 P W0 G o s fun v' H'' => v' = v ∧ H'' = H' := by
 unfold Zj at h
 unfold B5
 split at h
 · rename_i hgd
   rw [hgd]
   exact Qz hc h hg
 · rename_i d want hgd
   rw [hgd]
   simp only
   split at h
   · rename_i b hb
     rw [hb]
     simp only
     cases hw : cond b want (not want) with
     | true => rw [hw] at h; exact Qz hc h hg
     | false =>
       rw [hw, cond_false] at h
       simp only [iS, iP] at h
       obtain ⟨rfl, rfl, rfl⟩ := h
       exact ⟨hg, rfl, rfl⟩
   · rename_i hb
     rw [hb]
     simp only [iS, iP] at h
     obtain ⟨rfl, rfl, rfl⟩ := h
     exact ⟨hg, rfl, rfl⟩
   · cases h
theorem rdS_ok {o : AOper} (hk : o.op.kind ≤ 1) {s : St} {v : AVal} {side : List (Int × Int)} (h : rdS G o s = some (v, side)) (hs : Af side) : B5 P W0 G o s fun v' H' => v' = v ∧ H' = s.H := by
 have main : rdV (aop G s o.op) = some (v, side) → H7 P W0 s.H (aop G s o.op) (fun v' H'' => v' = v ∧ H'' = s.H) := by
  intro h
  cases hr : aop G s o.op with
  | none => rw [hr] at h; cases h
  | some r =>
    obtain ⟨v1, side1, rfl⟩ := Hv (by omega) hr
    rw [hr] at h
    simp only [rdV, iS, iP] at h
    obtain ⟨rfl, rfl⟩ := h
    exact ⟨hs, rfl, rfl⟩
 unfold rdS at h
 unfold B5
 split at h
 · rename_i hgd; rw [hgd]; exact main h
 · rename_i d want hgd
   rw [hgd]
   simp only
   split at h
   · rename_i b hb
     rw [hb]
     simp only
     cases hw : cond b want (not want) with
     | true => rw [hw] at h; exact main h
     | false =>
       rw [hw, cond_false] at h
       simp only [iS, iP] at h
       exact ⟨h.1, trivial⟩
   · rename_i hb
     rw [hb]
     simp only [iS, iP] at h
     exact ⟨h.1, trivial⟩
   · cases h
theorem Jp {p : SP} {n : Nat} {M : HMap} {o : AOper} {t : Tr} {j : Nat} (hop : o.op.kind ≤ 1) : ∀ {sts : List Nat} {acc obs : List Ob}, Jc G p n M o t j sts acc = some obs → (∀ o ∈ obs, o.ok P W0) →
 (∀ o ∈ acc, o.ok P W0) ∧ ∀ σ ∈ sts, p.mayB σ j = true → σ = t.σ ∨ ∃ H, lkH σ M = some H ∧ B5 P W0 G o ⟨t.env, H, n⟩ fun v' H' => v' = t.v ∧ H' = H
 | [], acc, obs, h, hg => by
   simp only [Jc, iS] at h
   subst h
   exact ⟨hg, fun σ h => by cases h⟩
 | τ :: r, acc, obs, h, hg => by
   simp only [Jc] at h
   cases hb : Nat.beq τ t.σ with
   | true =>
     rw [hb, cond_true] at h
     obtain ⟨k1, k2⟩ := Jp hop h hg
     refine ⟨k1, fun σ hσ hm => ?_⟩
     rcases List.mem_cons.1 hσ with rfl | hσ
     · exact .inl (nBq hb)
     · exact k2 σ hσ hm
   | false =>
     rw [hb, cond_false] at h
     cases hm : p.mayB τ j with
     | false =>
       rw [hm, cond_false] at h
       obtain ⟨k1, k2⟩ := Jp hop h hg
       refine ⟨k1, fun σ hσ hm' => ?_⟩
       rcases List.mem_cons.1 hσ with rfl | hσ
       · rw [hm] at hm'; cases hm'
       · exact k2 σ hσ hm'
     | true =>
       rw [hm, cond_true] at h
       split at h
       · rename_i H hH
         split at h
         · rename_i v side hv
           obtain ⟨k1, k2⟩ := Jp hop h hg
           have hv' : v = t.v := k1 (.veq v t.v) (by simp)
           obtain ⟨k3, k4⟩ := Qd (P := P) (W0 := W0) (l := side) (obs := acc) fun o ho => k1 o (by simp [ho])
           refine ⟨k3, fun σ hσ hm' => ?_⟩
           rcases List.mem_cons.1 hσ with rfl | hσ
           · exact .inr ⟨H, hH, hv' ▸ rdS_ok hop hv k4⟩
           · exact k2 σ hσ hm'
         · cases h
       · cases h
theorem Tt {p : SP} {n : Nat} {M : HMap} : ∀ {l : List AOper} {trs : List Tr} {j : Nat} {acc obs : List Ob}, P1 G p n M l trs j acc = some obs → (∀ o ∈ obs, o.ok P W0) → (∀ k o, l[k]? = some o → p.kind.getD (j + k) 0 = 1 → o.op.kind ≤ 1) →
 (∀ o ∈ acc, o.ok P W0) ∧ ∀ k o t, l[k]? = some o → trs[k]? = some t → p.kind.getD (j + k) 0 = 1 → ∀ σ ∈ p.states, p.mayB σ (j + k) = true → σ = t.σ ∨ ∃ H, lkH σ M = some H ∧ B5 P W0 G o ⟨t.env, H, n⟩ fun v' H' => v' = t.v ∧ H' = H
 | [], trs, j, acc, obs, h, hg, _ => by
   simp only [P1, iS] at h; subst h
   exact ⟨hg, fun k o t h => by simp at h⟩
 | _ :: _, [], j, acc, obs, h, hg, _ => by
   simp only [P1, iS] at h; subst h
   exact ⟨hg, fun k o t _ h => by simp at h⟩
 | o :: r, t :: trs, j, acc, obs, h, hg, hkd => by
   simp only [P1] at h
   split at h
   · rename_i acc' ha
     obtain ⟨k1, k2⟩ := Tt h hg fun k o ho h1 => hkd (k + 1) o (by simpa using ho) (by rw [show j + (k + 1) = j + 1 + k by omega]; exact h1)
     have hacc : (∀ o ∈ acc, o.ok P W0) ∧ (p.kind.getD j 0 = 1 → ∀ σ ∈ p.states, p.mayB σ j = true → σ = t.σ ∨ ∃ H, lkH σ M = some H ∧ B5 P W0 G o ⟨t.env, H, n⟩ fun v' H' => v' = t.v ∧ H' = H) := by
      cases hb : Nat.beq (p.kind.getD j 0) 1 with
      | false =>
        rw [hb, cond_false] at ha
        injection ha with ha; subst ha
        exact ⟨k1, fun h1 => by rw [h1] at hb; cases hb⟩
      | true =>
        rw [hb, cond_true] at ha
        obtain ⟨c1, c2⟩ := Jp (hkd 0 o rfl (by rw [Nat.add_zero]; exact nBq hb)) ha k1
        exact ⟨c1, fun _ => c2⟩
     refine ⟨hacc.1, fun k o' t' h1 h2 h3 => ?_⟩
     cases k with
     | zero =>
       simp at h1 h2; subst h1; subst h2
       exact hacc.2 h3
     | succ k =>
       rw [show j + (k + 1) = j + 1 + k by omega] at h3 ⊢
       exact k2 k o' t' (by simpa using h1) (by simpa using h2) h3
   · cases h
theorem Vl {call : CallS} (hc : Ce P W0 call) {p : SP} {n : Nat} : ∀ (l : List AOper) (j : Nat) (e : Env) (σ : Nat) (H : Hz) (M : HMap) {ss s1 : SS} {tr : List Tr} {Mf : HMap} {ef : Env}, A1d G call p n l j e σ H M ss = some (tr, Mf, ef, s1) → lkH σ M = some H → Gd P W0 s1 →
 Gd P W0 ss ∧ Ef M Mf ∧ tr.length = l.length ∧ Bh tr ef 0 = e ∧
 ∀ k o, l[k]? = some o → ∃ t Hk H', tr[k]? = some t ∧ Et o.dst n = true ∧ lkH t.σ Mf = some Hk ∧ (B5 P W0 G o ⟨t.env, Hk, n⟩ fun v' H'' => v' = t.v ∧ H'' = H') ∧
  (p.eff (j + k) = true → lkH (SP.nxt t.σ (j + k)) Mf = some H') ∧ Bh tr ef (k + 1) = Fa o.dst t.v t.env
 | [], j, e, σ, H, M, ss, s1, tr, Mf, ef, h, hl, hg => by
   simp only [A1d, iS, iP] at h
   obtain ⟨rfl, rfl, rfl, rfl⟩ := h
   exact ⟨hg, fun _ _ h => h, rfl, rfl, fun k o hk => by simp at hk⟩
 | o :: r, j, e, σ, H, M, ss, s1, tr, Mf, ef, h, hl, hg => by
   simp only [A1d] at h
   split at h
   · rename_i hd
     split at h
     · rename_i v H' s2 hv
       split at h
       · rename_i heff
         split at h
         · rename_i hnone
           split at h
           · rename_i l' rest hrest
             simp only [iS, iP] at h
             obtain ⟨rfl, h⟩ := h
             subst h
             obtain ⟨g1, h1, h2, h3, h4⟩ := Vl hc r (j + 1) _ _ H' _ hrest (C4 _ _ _) hg
             obtain ⟨g2, e2⟩ := Na hc hv g1
             have hext : Ef M Mf := fun σ' H'' h' => h1 _ _ (Ef.cons hnone _ _ h')
             refine ⟨g2, hext, by simp [h2], rfl, fun k o' hk => ?_⟩
             cases k with
             | zero =>
               simp at hk; subst hk
               exact ⟨_, H, H', rfl, hd, hext _ _ hl, e2, fun _ => h1 _ _ (C4 _ _ _), by simpa [Bh] using h3⟩
             | succ k =>
               obtain ⟨t, Hk, Hk', a1, a2, a3, a4, a5, a6⟩ := h4 k o' (by simpa using hk)
               exact ⟨t, Hk, Hk', by simpa using a1, a2, a3, a4, by rw [show j + (k + 1) = j + 1 + k by omega]; exact a5, by simpa [Bh] using a6⟩
           · cases h
         · cases h
       · rename_i heff
         split at h
         · rename_i l' rest hrest
           simp only [iS, iP] at h
           obtain ⟨rfl, h⟩ := h
           subst h
           obtain ⟨g1, h1, h2, h3, h4⟩ := Vl hc r (j + 1) _ _ H _ hrest hl hg
           obtain ⟨g2, e2⟩ := Na hc hv g1
           refine ⟨g2, h1, by simp [h2], rfl, fun k o' hk => ?_⟩
           cases k with
           | zero =>
             simp at hk; subst hk
             exact ⟨_, H, H', rfl, hd, h1 _ _ hl, e2, fun he => absurd he (by rw [Nat.add_zero, heff]; simp), by simpa [Bh] using h3⟩
           | succ k =>
             obtain ⟨t, Hk, Hk', a1, a2, a3, a4, a5, a6⟩ := h4 k o' (by simpa using hk)
             exact ⟨t, Hk, Hk', by simpa using a1, a2, a3, a4, by rw [show j + (k + 1) = j + 1 + k by omega]; exact a5, by simpa [Bh] using a6⟩
         · cases h
     · cases h
   · cases h
theorem Wu {o : AOper} {s : St} {v : AVal} {H' : Hz} (hk : o.op.kind ≤ 1) (h : B5 P W0 G o s fun v' H'' => v' = v ∧ H'' = H') : H' = s.H := by
 have main : H7 P W0 s.H (aop G s o.op) (fun v' H'' => v' = v ∧ H'' = H') → H' = s.H := by
  intro h
  cases hr : aop G s o.op with
  | none => rw [hr] at h; exact h.elim
  | some r =>
    obtain ⟨v1, side, rfl⟩ := Hv (by omega) hr
    rw [hr] at h
    exact h.2.2.symm
 unfold B5 at h
 split at h
 · exact main h
 · split at h
   · rename_i b _
     revert h
     cases (cond b _ _ : Bool) with
     | true => exact main
     | false => exact fun h => h.2.symm
   · exact h.2.symm
   · exact h.elim
theorem Gd.ob {ss : SS} {o : Ob} (h : Gd P W0 (ss.ob o)) : Gd P W0 ss ∧ o.ok P W0 := ⟨fun o' ho => h o' (by simp [SS.ob, ho]), h o (by simp [SS.ob])⟩
def Pl (P : Program) (W0 : World) (G : List (Nat × AVal)) (n : Nat) (o : AOper) (t : Tr) (j : Nat) (M : HMap) : Prop := ∃ Hk H', lkH t.σ M = some Hk ∧ (B5 P W0 G o ⟨t.env, Hk, n⟩ fun v' H'' => v' = t.v ∧ H'' = H') ∧ lkH (SP.nxt t.σ j) M = some H'
theorem Pl.ext {n : Nat} {o : AOper} {t : Tr} {j : Nat} {M M' : HMap} (h : Pl P W0 G n o t j M) (he : Ef M M') : Pl P W0 G n o t j M' := by
 obtain ⟨Hk, H', h1, h2, h3⟩ := h
 exact ⟨Hk, H', he _ _ h1, h2, he _ _ h3⟩
theorem Qe {call : CallS} (hc : Ce P W0 call) {n : Nat} {o : AOper} {t : Tr} {σ j : Nat} {M M' : HMap} {ss s1 : SS} (h : O6 G call n o t σ j M ss = some (M', s1)) (hg : Gd P W0 s1) :
 Gd P W0 ss ∧ Ef M M' ∧ ∃ H H', lkH σ M' = some H ∧ (B5 P W0 G o ⟨t.env, H, n⟩ fun v' H'' => v' = t.v ∧ H'' = H') ∧ lkH (SP.nxt σ j) M' = some H' := by
 unfold O6 at h
 split at h
 · rename_i H hH
   split at h
   · rename_i v H' s2 hv
     split at h
     · rename_i H'' hH''
       simp only [iS, iP] at h
       obtain ⟨rfl, rfl⟩ := h
       obtain ⟨g1, o1⟩ := hg.ob
       obtain ⟨g2, o2⟩ := g1.ob
       obtain ⟨g3, e3⟩ := Na hc hv g2
       have o1 : v = t.v := o1
       have o2 : H' = H'' := o2
       subst o1; subst o2
       exact ⟨g3, fun _ _ h => h, H, H', hH, e3, hH''⟩
     · rename_i hnone
       simp only [iS, iP] at h
       obtain ⟨rfl, rfl⟩ := h
       obtain ⟨g1, o1⟩ := hg.ob
       obtain ⟨g3, e3⟩ := Na hc hv g1
       have o1 : v = t.v := o1
       subst o1
       exact ⟨g3, Ef.cons hnone, H, H', Ef.cons hnone _ _ hH, e3, C4 _ _ _⟩
   · cases h
 · cases h
theorem X5 {n : Nat} {o : AOper} {t : Tr} {σ j : Nat} {M M' : HMap} {ss s1 : SS} (hb : Pl P W0 G n o t j M) (h : J2 t σ j M ss = some (M', s1)) (hg : Gd P W0 s1) :
 Gd P W0 ss ∧ Ef M M' ∧ ∃ H H', lkH σ M' = some H ∧ (B5 P W0 G o ⟨t.env, H, n⟩ fun v' H'' => v' = t.v ∧ H'' = H') ∧ lkH (SP.nxt σ j) M' = some H' := by
 obtain ⟨Hk, Hk', b1, b2, b3⟩ := hb
 unfold J2 at h
 split at h
 · rename_i H hH
   split at h
   · rename_i Ht hHt
     rw [b1] at hHt; injection hHt with hHt; subst hHt
     split at h
     · rename_i Ht' hHt'
       rw [b3] at hHt'; injection hHt' with hHt'; subst hHt'
       split at h
       · rename_i H'' hH''
         simp only [iS, iP] at h
         obtain ⟨rfl, rfl⟩ := h
         obtain ⟨g1, o1⟩ := hg.ob
         obtain ⟨g2, o2⟩ := g1.ob
         have o1 : Hk = H := o1
         have o2 : Hk' = H'' := o2
         subst o1; subst o2
         exact ⟨g2, fun _ _ h => h, Hk, Hk', hH, b2, hH''⟩
       · rename_i hnone
         simp only [iS, iP] at h
         obtain ⟨rfl, rfl⟩ := h
         obtain ⟨g1, o1⟩ := hg.ob
         have o1 : Hk = H := o1
         subst o1
         exact ⟨g1, Ef.cons hnone, Hk, Hk', Ef.cons hnone _ _ hH, b2, C4 _ _ _⟩
     · cases h
   · cases h
 · cases h
theorem S1 {e : Env} {n : Nat} {op : AOp} {f : Nat} {args : List AVal} (h : Ve G e n op = some (f, args)) (H : Hz) : aop G ⟨e, H, n⟩ op = some (.call f args) := by
 cases op <;> simp only [Ve, reduceCtorEq] at h
 rename_i f' az'
 simp only [aop]
 rw [Gz (H' := []) f', Zl (H' := []) az']
 split at h
 · rename_i g first cap hf
   rw [hf]
   split at h
   · rename_i l hl
     simp only [iS, iP] at h
     obtain ⟨rfl, rfl⟩ := h
     simp only [hl]
   · cases h
 · cases h
theorem Ux {n : Nat} {o : AOper} {t : Tr} {σ j : Nat} {M M' : HMap} {ss s1 : SS} (hb : Pl P W0 G n o t j M) (h : Hm G n o t σ j M ss = some (M', s1)) (hg : Gd P W0 s1) :
 Gd P W0 ss ∧ Ef M M' ∧ ∃ H H', lkH σ M' = some H ∧ (B5 P W0 G o ⟨t.env, H, n⟩ fun v' H'' => v' = t.v ∧ H'' = H') ∧ lkH (SP.nxt σ j) M' = some H' := by
 obtain ⟨Hk, Hk', b1, b2, b3⟩ := hb
 unfold Hm at h
 split at h
 · rename_i H hH
   split at h
   · rename_i Ht hHt
     rw [b1] at hHt; injection hHt with hHt; subst hHt
     split at h
     · rename_i Ht' hHt'
       rw [b3] at hHt'; injection hHt' with hHt'; subst hHt'
       split at h
       · rename_i hgd
         split at h
         · rename_i f args hct
           cases hcd : (Nat.beq Hk'.length Hk.length && (B2 Hk.length Hk && A8 Hk.length args)) with
           | false => rw [hcd] at h; cases h
           | true =>
             rw [hcd, cond_true] at h
             simp only [bAt] at hcd
             obtain ⟨c1, c2, c3⟩ := hcd
             have c1 := nBq c1
             have hcall : A1 P W0 f args Hk t.v Hk' := by
              unfold B5 at b2
              rw [hgd] at b2
              simp only [S1 hct Hk] at b2
              obtain ⟨v', H'', k1, k2, k3⟩ := b2
              subst k2; subst k3; exact k1
             have hfr := hcall.frame c2 c3 c1 (H.drop Hk.length)
             have hev : ∀ {H2 : Hz}, Hk ++ H.drop Hk.length = H2 → B5 P W0 G o ⟨t.env, H2, n⟩ fun v' H'' => v' = t.v ∧ H'' = Hk' ++ H.drop Hk.length := by
              intro H2 he
              subst he
              unfold B5
              rw [hgd]
              simp only [S1 hct]
              exact ⟨_, _, hfr, rfl, rfl⟩
             split at h
             · rename_i H'' hH''
               simp only [iS, iP] at h
               obtain ⟨rfl, rfl⟩ := h
               obtain ⟨g1, o1⟩ := hg.ob
               obtain ⟨g2, o2⟩ := g1.ob
               have o1 : Hk ++ H.drop Hk.length = H := o1
               have o2 : Hk' ++ H.drop Hk.length = H'' := o2
               exact ⟨g2, fun _ _ h => h, H, H'', hH, o2 ▸ hev o1, hH''⟩
             · rename_i hnone
               simp only [iS, iP] at h
               obtain ⟨rfl, rfl⟩ := h
               obtain ⟨g1, o1⟩ := hg.ob
               have o1 : Hk ++ H.drop Hk.length = H := o1
               exact ⟨g1, Ef.cons hnone, H, _, Ef.cons hnone _ _ hH, hev o1, C4 _ _ _⟩
         · cases h
       · cases h
     · cases h
   · cases h
 · cases h
theorem Y0 {call : CallS} (hc : Ce P W0 call) {n : Nat} {o : AOper} {t : Tr} {σ j : Nat} {M M' : HMap} {ss s1 : SS} (hb : Pl P W0 G n o t j M) (h : Jf G call n o t σ j M ss = some (M', s1)) (hg : Gd P W0 s1) :
 Gd P W0 ss ∧ Ef M M' ∧ (σ = t.σ ∨ ∃ H H', lkH σ M' = some H ∧ (B5 P W0 G o ⟨t.env, H, n⟩ fun v' H'' => v' = t.v ∧ H'' = H') ∧ lkH (SP.nxt σ j) M' = some H') := by
 unfold Jf at h
 cases hbq : Nat.beq σ t.σ with
 | true =>
   rw [hbq, cond_true] at h
   simp only [iS, iP] at h
   obtain ⟨rfl, rfl⟩ := h
   exact ⟨hg, fun _ _ h => h, .inl (nBq hbq)⟩
 | false =>
   rw [hbq, cond_false] at h
   split at h
   · obtain ⟨k1, k2, k3⟩ := Qe hc h hg
     exact ⟨k1, k2, .inr k3⟩
   · obtain ⟨k1, k2, k3⟩ := X5 hb h hg
     exact ⟨k1, k2, .inr k3⟩
   · obtain ⟨k1, k2, k3⟩ := Ux hb h hg
     exact ⟨k1, k2, .inr k3⟩
   · cases h
theorem U9 {call : CallS} (hc : Ce P W0 call) {n : Nat} {ops' : List AOper} {l : List Tr} {σ : Nat} : ∀ {js : List Nat} {M M' : HMap} {ss s1 : SS}, (∀ j ∈ js, ∀ o t, ops'[j]? = some o → l[j]? = some t → Pl P W0 G n o t j M) → I2 G call n ops' l σ js M ss = some (M', s1) → Gd P W0 s1 →
 Gd P W0 ss ∧ Ef M M' ∧ ∀ j ∈ js, ∃ o t, ops'[j]? = some o ∧ l[j]? = some t ∧ (σ = t.σ ∨ ∃ H H', lkH σ M' = some H ∧ (B5 P W0 G o ⟨t.env, H, n⟩ fun v' H'' => v' = t.v ∧ H'' = H') ∧ lkH (SP.nxt σ j) M' = some H')
 | [], M, M', ss, s1, _, h, hg => by
   simp only [I2, iS, iP] at h
   obtain ⟨rfl, rfl⟩ := h
   exact ⟨hg, fun _ _ h => h, fun j hj => by cases hj⟩
 | j :: r, M, M', ss, s1, hb, h, hg => by
   simp only [I2] at h
   split at h
   · rename_i o ho
     split at h
     · rename_i t ht
       split at h
       · rename_i M1 s2 h1
         have hext : Ef M M1 := by
          unfold Jf at h1
          cases hbq : Nat.beq σ t.σ with
          | true => rw [hbq, cond_true] at h1; simp only [iS, iP] at h1; obtain ⟨rfl, _⟩ := h1; exact fun _ _ h => h
          | false =>
            rw [hbq, cond_false] at h1
            split at h1
            · unfold O6 at h1
              repeat' (split at h1)
              all_goals first
               | (cases h1; done)
               | (simp only [iS, iP] at h1; obtain ⟨rfl, _⟩ := h1; exact fun _ _ h => h)
               | (rename_i hn; simp only [iS, iP] at h1; obtain ⟨rfl, _⟩ := h1; exact Ef.cons hn)
            · unfold J2 at h1
              repeat' (split at h1)
              all_goals first
               | (cases h1; done)
               | (simp only [iS, iP] at h1; obtain ⟨rfl, _⟩ := h1; exact fun _ _ h => h)
               | (rename_i hn; simp only [iS, iP] at h1; obtain ⟨rfl, _⟩ := h1; exact Ef.cons hn)
            · unfold Hm at h1
              repeat' (split at h1)
              all_goals first
               | (cases h1; done)
               | (revert h1
                  cases (Nat.beq _ _ && (B2 _ _ && A8 _ _)) with
                  | false => intro h1; cases h1
                  | true =>
                    intro h1
                    rw [cond_true] at h1
                    simp only [iS, iP] at h1
                    obtain ⟨rfl, _⟩ := h1
                    first
                     | exact fun _ _ h => h
                     | exact Ef.cons (by assumption))
            · cases h1
         obtain ⟨g2, b1, b2⟩ := U9 hc (fun k hk o t h1 h2 => (hb k (by simp [hk]) o t h1 h2).ext hext) h hg
         obtain ⟨g1, a1, a2⟩ := Y0 hc (hb j (by simp) o t ho ht) h1 g2
         refine ⟨g1, fun σ H hh => b1 _ _ (a1 _ _ hh), fun k hk => ?_⟩
         rcases List.mem_cons.1 hk with rfl | hk
         · refine ⟨o, t, ho, ht, a2.imp id ?_⟩
           rintro ⟨H, H', c1, c2, c3⟩
           exact ⟨H, H', b1 _ _ c1, c2, b1 _ _ c3⟩
         · exact b2 k hk
       · cases h
     · cases h
   · cases h
theorem S9 {call : CallS} {n : Nat} {ops' : List AOper} {l : List Tr} {σ : Nat} : ∀ {js : List Nat} {M M' : HMap} {ss s1 : SS}, I2 G call n ops' l σ js M ss = some (M', s1) → Ef M M'
 | [], M, M', ss, s1, h => by
   simp only [I2, iS, iP] at h
   obtain ⟨rfl, rfl⟩ := h
   exact fun _ _ h => h
 | j :: r, M, M', ss, s1, h => by
   simp only [I2] at h
   split at h
   · rename_i o ho
     split at h
     · rename_i t ht
       split at h
       · rename_i M1 s2 h1
         have hext : Ef M M1 := by
          unfold Jf at h1
          cases hbq : Nat.beq σ t.σ with
          | true => rw [hbq, cond_true] at h1; simp only [iS, iP] at h1; obtain ⟨rfl, _⟩ := h1; exact fun _ _ h => h
          | false =>
            rw [hbq, cond_false] at h1
            split at h1
            · unfold O6 at h1
              repeat' (split at h1)
              all_goals first
               | (cases h1; done)
               | (simp only [iS, iP] at h1; obtain ⟨rfl, _⟩ := h1; exact fun _ _ h => h)
               | (rename_i hn; simp only [iS, iP] at h1; obtain ⟨rfl, _⟩ := h1; exact Ef.cons hn)
            · unfold J2 at h1
              repeat' (split at h1)
              all_goals first
               | (cases h1; done)
               | (simp only [iS, iP] at h1; obtain ⟨rfl, _⟩ := h1; exact fun _ _ h => h)
               | (rename_i hn; simp only [iS, iP] at h1; obtain ⟨rfl, _⟩ := h1; exact Ef.cons hn)
            · unfold Hm at h1
              repeat' (split at h1)
              all_goals first
               | (cases h1; done)
               | (revert h1
                  cases (Nat.beq _ _ && (B2 _ _ && A8 _ _)) with
                  | false => intro h1; cases h1
                  | true =>
                    intro h1
                    rw [cond_true] at h1
                    simp only [iS, iP] at h1
                    obtain ⟨rfl, _⟩ := h1
                    first
                     | exact fun _ _ h => h
                     | exact Ef.cons (by assumption))
            · cases h1
         exact fun σ H hh => S9 h _ _ (hext _ _ hh)
       · cases h
     · cases h
   · cases h
theorem Pv {call : CallS} (hc : Ce P W0 call) {p : SP} {n : Nat} {ops' : List AOper} {l : List Tr} : ∀ {sts : List Nat} {M M' : HMap} {ss s1 : SS}, (∀ j o t, p.eff j = true → ops'[j]? = some o → l[j]? = some t → Pl P W0 G n o t j M) → Gq G call p n ops' l sts M ss = some (M', s1) → Gd P W0 s1 →
 Gd P W0 ss ∧ Ef M M' ∧ ∀ σ ∈ sts, ∀ j ∈ p.steps σ, ∃ o t, ops'[j]? = some o ∧ l[j]? = some t ∧ (σ = t.σ ∨ ∃ H H', lkH σ M' = some H ∧ (B5 P W0 G o ⟨t.env, H, n⟩ fun v' H'' => v' = t.v ∧ H'' = H') ∧ lkH (SP.nxt σ j) M' = some H')
 | [], M, M', ss, s1, _, h, hg => by
   simp only [Gq, iS, iP] at h
   obtain ⟨rfl, rfl⟩ := h
   exact ⟨hg, fun _ _ h => h, fun j hj => by cases hj⟩
 | σ :: r, M, M', ss, s1, hb, h, hg => by
   simp only [Gq] at h
   split at h
   · rename_i M1 s2 h1
     have hext := S9 h1
     obtain ⟨g2, b1, b2⟩ := Pv hc (fun j o t h1 h2 h3 => (hb j o t h1 h2 h3).ext hext) h hg
     obtain ⟨g1, a1, a2⟩ := U9 hc (fun j hj o t h1 h2 => hb j o t (by
      unfold SP.steps at hj
      rw [List.mem_filter] at hj
      simp only [bAt] at hj
      exact hj.2.1.1) h1 h2) h1 g2
     refine ⟨g1, fun σ H hh => b1 _ _ (a1 _ _ hh), fun τ hτ j hj => ?_⟩
     rcases List.mem_cons.1 hτ with rfl | hτ
     · obtain ⟨o, t, c1, c2, c3⟩ := a2 j hj
       refine ⟨o, t, c1, c2, c3.imp id ?_⟩
       rintro ⟨H, H', c1, c2, c3⟩
       exact ⟨H, H', b1 _ _ c1, c2, b1 _ _ c3⟩
     · exact b2 τ hτ j hj
   · cases h
theorem Yd {call : CallS} (hc : Ce P W0 call) {n : Nat} {o : AOper} {t : Tr} {σ j : Nat} {M M' : HMap} {ss s1 : SS} (h : Jf G call n o t σ j M ss = some (M', s1)) (hg : Gd P W0 s1) : Gd P W0 ss := by
 unfold Jf at h
 cases hbq : Nat.beq σ t.σ with
 | true =>
   rw [hbq, cond_true] at h
   simp only [iS, iP] at h
   obtain ⟨rfl, rfl⟩ := h
   exact hg
 | false =>
   rw [hbq, cond_false] at h
   split at h
   · exact (Qe hc h hg).1
   · unfold J2 at h
     repeat' (split at h)
     all_goals first
      | (cases h; done)
      | (simp only [iS, iP] at h; obtain ⟨_, rfl⟩ := h; exact hg.ob.1.ob.1)
      | (simp only [iS, iP] at h; obtain ⟨_, rfl⟩ := h; exact hg.ob.1)
   · unfold Hm at h
     repeat' (split at h)
     all_goals first
      | (cases h; done)
      | (revert h
         cases (Nat.beq _ _ && (B2 _ _ && A8 _ _)) with
         | false => intro h; cases h
         | true =>
           intro h
           rw [cond_true] at h
           simp only [iS, iP] at h
           obtain ⟨_, rfl⟩ := h
           first
            | exact hg.ob.1.ob.1
            | exact hg.ob.1)
   · cases h
theorem Tm {call : CallS} (hc : Ce P W0 call) {n : Nat} {ops' : List AOper} {l : List Tr} {σ : Nat} : ∀ {js : List Nat} {M M' : HMap} {ss s1 : SS}, I2 G call n ops' l σ js M ss = some (M', s1) → Gd P W0 s1 → Gd P W0 ss
 | [], M, M', ss, s1, h, hg => by
   simp only [I2, iS, iP] at h
   obtain ⟨rfl, rfl⟩ := h
   exact hg
 | j :: r, M, M', ss, s1, h, hg => by
   simp only [I2] at h
   split at h
   · split at h
     · split at h
       · rename_i M1 s2 h1
         exact Yd hc h1 (Tm hc h hg)
       · cases h
     · cases h
   · cases h
theorem P9 {call : CallS} (hc : Ce P W0 call) {p : SP} {n : Nat} {ops' : List AOper} {l : List Tr} : ∀ {sts : List Nat} {M M' : HMap} {ss s1 : SS}, Gq G call p n ops' l sts M ss = some (M', s1) → Gd P W0 s1 → Gd P W0 ss
 | [], M, M', ss, s1, h, hg => by
   simp only [Gq, iS, iP] at h
   obtain ⟨rfl, rfl⟩ := h
   exact hg
 | σ :: r, M, M', ss, s1, h, hg => by
   simp only [Gq] at h
   split at h
   · rename_i M1 s2 h1
     exact Tm hc h1 (P9 hc h hg)
   · cases h
theorem A0n (hm : P.follows .mixedOrders = true) (hG : GOK W0 G) {call : CallS} (hc : Ce P W0 call) {id : Nat} {ops : Array Oper} {l : List AOper} (hl : Aw P ops ops.toList = some l) {sp : SP} (hok : H8 P ops sp = true) {s t : St} {ss s1 : SS} (h : Y6 G call sp l s ss = some (t, s1)) (hg : Gd P W0 s1) :
 Gd P W0 ss ∧ Ex P W0 (.region id ops true) s fun e1 t1 => e1 = .normal ∧ t1 = t := by
 unfold Y6 at h
 split at h
 · rename_i trs M0 e s2 hseq
   split at h
   · rename_i M s3 hloud
     cases hlin : exB sp M with
     | false => rw [hlin] at h; cases h
     | true =>
     rw [hlin, cond_true] at h
     split at h
     · rename_i obs hq
       split at h
       · rename_i Hfin hfin
         simp only [iS, iP] at h
         obtain ⟨rfl, rfl⟩ := h
         obtain ⟨hlen, hcg⟩ := Ci hl
         have hN : sp.n = ops.size ∧ ∀ (j : Nat) (o : Oper), ops[j]? = some o → sp.kind.getD j 0 = Br P o := by
          have hok' := hok
          simp only [H8, bAt] at hok'
          obtain ⟨⟨⟨⟨k1, k2⟩, k3⟩, k4⟩, k5⟩ := hok'
          refine ⟨nBq k1, fun j o ho => ?_⟩
          have := List.all_eq_true.1 k5 j (List.mem_range.2 (Array.getElem?_eq_some_iff.1 ho).1)
          rw [ho] at this
          simp only [Q7, bAt] at this
          exact nBq this.1.2
         have hkop : ∀ (o : Oper) (a : AOper), B6 P ops o = some a → Br P o = a.op.kind := by
          intro o a this
          unfold B6 at this
          split at this
          · split at this
            · rename_i op hop
              injection this with this; subst this
              unfold Br
              rw [hop]
            · cases this
          · cases this
         obtain ⟨q1, q2⟩ := Tt (P := P) (W0 := W0) hq hg fun k a ha h1 => by
          rw [Nat.zero_add] at h1
          have hkl : k < ops.size := by
           have := (List.getElem?_eq_some_iff.1 ha).1
           rw [hlen] at this
           simpa using this
          obtain ⟨a', b1, b2⟩ := hcg k ops[k] (by simp [hkl])
          rw [ha] at b1; injection b1 with b1; subst b1
          rw [← hkop _ _ b2, ← hN.2 k ops[k] (Array.getElem?_eq_getElem hkl), h1]
          exact Nat.le_refl 1
         have q1' := P9 hc hloud q1
         obtain ⟨g1, h1', h2, h3, h4'⟩ := Vl hc l 0 s.env 0 s.H [(0, s.H)] hseq (C4 _ _ _) q1'
         obtain ⟨_, hM, hL⟩ := Pv hc (fun j o t hj ho ht => by
          obtain ⟨t', Hk, H', a1, a2, a3, a4, a5, a6⟩ := h4' j o ho
          rw [ht] at a1; injection a1 with a1; subst a1
          rw [Nat.zero_add] at a5
          exact ⟨Hk, H', a3, a4, a5 hj⟩) hloud q1
         have h1 : Ef [(0, s.H)] M := fun σ H hh => hM _ _ (h1' _ _ hh)
         have h4 : ∀ k o, l[k]? = some o → ∃ t Hk H', trs[k]? = some t ∧ Et o.dst s.n = true ∧ lkH t.σ M = some Hk ∧ (B5 P W0 G o ⟨t.env, Hk, s.n⟩ fun v' H'' => v' = t.v ∧ H'' = H') ∧
          (sp.eff (0 + k) = true → lkH (SP.nxt t.σ (0 + k)) M = some H') ∧ Bh trs e (k + 1) = Fa o.dst t.v t.env := by
          intro k o ho
          obtain ⟨t, Hk, H', a1, a2, a3, a4, a5, a6⟩ := h4' k o ho
          exact ⟨t, Hk, H', a1, a2, hM _ _ a3, a4, fun he => hM _ _ (a5 he), a6⟩
         refine ⟨g1, ?_⟩
         have hall : ∀ (j : Nat) (o : Oper), ops[j]? = some o → ∃ a t Hk H', l[j]? = some a ∧ B6 P ops o = some a ∧ trs[j]? = some t ∧ Et o.dst s.n = true ∧ lkH t.σ M = some Hk ∧ (B5 P W0 G a ⟨t.env, Hk, s.n⟩ fun v' H'' => v' = t.v ∧ H'' = H') ∧ (sp.eff j = true → lkH (SP.nxt t.σ j) M = some H') ∧ Bh trs e (j + 1) = Fa o.dst t.v t.env := by
          intro j o ho
          obtain ⟨a, ha1, ha2⟩ := hcg j o (by simpa using ho)
          obtain ⟨t, Hk, H', a1, a2, a3, a4, a5, a6⟩ := h4 j a ha1
          have hdst := Df ha2
          rw [hdst] at a2 a6
          exact ⟨a, t, Hk, H', ha1, ha2, a1, a2, a3, a4, fun he => by have := a5 (by rw [Nat.zero_add]; exact he); rw [Nat.zero_add] at this; exact this, a6⟩
         have hex : ∀ σ ∈ sp.states, ∃ H, lkH σ M = some H := fun σ hσ => Option.isSome_iff_exists.1 (List.all_eq_true.1 hlin σ hσ)
         obtain ⟨p, hp, heq⟩ := P0 (P := P) (W0 := W0) (G := G) (s := s) hok (l := trs) (M' := M) (ef := e) (Hfin := Hfin) (by rw [h2, hlen]; simp) h3 (h1 _ _ (C4 _ _ _))
          (fun j o ho => by
           obtain ⟨a, t, Hk, H', b1, b2, b3, b4, b5, b6, b7, b8⟩ := hall j o ho
           exact ⟨t, b3, b4, b8⟩)
          (fun j o t ho ht hk σ hσ hmay => by
           obtain ⟨a, t', Hk, H', b1, b2, b3, b4, b5, b6, b7, b8⟩ := hall j o ho
           rw [ht] at b3; injection b3 with b3; subst b3
           obtain ⟨H2, hH2⟩ := hex σ hσ
           refine ⟨H2, hH2, ?_⟩
           have hk0 : Br P o = 0 ∨ Br P o = 1 := by omega
           rcases hk0 with hk0 | hk1
           · exact Jq hk0 (Fp b2 b6)
           · rcases q2 j a t b1 ht (by rw [Nat.zero_add, hN.2 j o ho]; exact hk1) σ hσ (by rw [Nat.zero_add]; exact hmay) with rfl | ⟨H3, c1, c2⟩
             · rw [b5] at hH2; injection hH2 with hH2; subst hH2
               have hop : a.op.kind ≤ 1 := by
                have := b2
                unfold B6 at this
                split at this
                · split at this
                  · rename_i op hop
                    injection this with this; subst this
                    unfold Br at hk
                    rw [hop] at hk
                    exact hk
                  · cases this
                · cases this
               have := Wu hop b6
               have h5 : H' = Hk := this
               subst h5
               exact Fp b2 b6
             · rw [c1] at hH2; injection hH2 with hH2; subst hH2
               exact Fp b2 c2)
          (fun σ hσ j hj => by
           have hjj := hj
           unfold SP.steps at hjj
           rw [List.mem_filter, List.mem_range] at hjj
           obtain ⟨hjn, hje⟩ := hjj
           simp only [bAt] at hje
           have hjs : j < ops.size := by rw [← hN.1]; exact hjn
           have ho : ops[j]? = some ops[j] := Array.getElem?_eq_getElem hjs
           obtain ⟨a, t, Hk, H', b1, b2, b3, b4, b5, b6, b7, b8⟩ := hall j _ ho
           obtain ⟨a', t', c1, c2, c3⟩ := hL σ hσ j hj
           rw [b1] at c1; injection c1 with c1; subst c1
           rw [b3] at c2; injection c2 with c2; subst c2
           rcases c3 with rfl | ⟨H2, H2', d1, d2, d3⟩
           · exact ⟨_, t, Hk, H', ho, b3, b5, Fp b2 b6, b7 hje.1.1⟩
           · exact ⟨_, t, H2, H2', ho, b3, d1, Fp b2 d2, d3⟩)
          hfin
         exact Ex.draw hm hG hp ⟨rfl, heq.symm⟩
       · cases h
     · cases h
   · cases h
 · cases h
theorem A2t (hm : P.follows .mixedOrders = true) (hG : GOK W0 G) {call : CallS} (hc : Ce P W0 call) {id : Nat} {ops : Array Oper} {s t : St} {ss s1 : SS} (h : A3l P G call ops s ss = some (t, s1)) (hg : Gd P W0 s1) :
 Gd P W0 ss ∧ Ex P W0 (.region id ops true) s fun e1 t1 => e1 = .normal ∧ t1 = t := by
 unfold A3l at h
 split at h
 · rename_i l hl
   cases hsp : H8 P ops (C3 P ops.toList) with
   | false => rw [hsp] at h; cases h
   | true =>
     rw [hsp, cond_true] at h
     exact A0n hm hG hc hl hsp h hg
 · cases h
def Vf (P : Program) (W0 : World) (c : Code) (body : St → SS → Option (Am × St × SS)) : Prop := ∀ s ss e s' s1, body s ss = some (e, s', s1) → Gd P W0 s1 → Gd P W0 ss ∧ Ex P W0 c s fun e1 t1 => e1 = e ∧ t1 = s'
theorem Rq {c : Code} {body : St → SS → Option (Am × St × SS)} (hb : Vf P W0 c body) : ∀ {n : Nat} {s : St} {ss : SS} {e : Am} {s' : St} {s1 : SS}, loopS body n s ss = some (e, s', s1) → Gd P W0 s1 → Gd P W0 ss
 | 0, _, _, _, _, _, h, _ => by cases h
 | n + 1, s, ss, e, s', s1, h, hg => by
   simp only [loopS] at h
   split at h
   · rename_i t t1 h1
     exact (hb _ _ _ _ _ h1 (Rq hb h hg)).1
   · exact (hb _ _ _ _ _ h hg).1
theorem A1i {c : Code} {body : St → SS → Option (Am × St × SS)} (hb : Vf P W0 c body) {n : Nat} {s : St} {ss : SS} {e : Am} {s' : St} {s1 : SS} (h : loopS body n s ss = some (e, s', s1)) (hg : Gd P W0 s1) :
 Ex P W0 (.loop c) s fun e1 t1 => e1 = e ∧ t1 = s' := by
 refine Ex.loop (σ := Nat) (fun n s => ∃ ss, loopS body n s ss = some (e, s', s1)) id (i := n) ⟨ss, h⟩ ?_
 rintro n s ⟨ss, h⟩
 cases n with
 | zero => cases h
 | succ n =>
   simp only [loopS] at h
   split at h
   · rename_i t t1 h1
     have hgt := Rq hb h hg
     refine ((hb _ _ _ _ _ h1 hgt).2).mono ?_
     rintro e2 s2 ⟨rfl, rfl⟩
     exact ⟨n, ⟨t1, h⟩, Nat.lt_succ_self n⟩
   · rename_i hne
     refine ((hb _ _ _ _ _ h hg).2).mono ?_
     rintro e2 s2 ⟨rfl, rfl⟩
     cases e2 with
     | normal => exact absurd h (hne s2 s1)
     | exit id => exact ⟨rfl, rfl⟩
     | ret => exact ⟨rfl, rfl⟩
theorem Kw (hm : P.follows .mixedOrders = true) (hG : GOK W0 G) {call : CallS} (hc : Ce P W0 call) : ∀ (n : Nat) {c : Code}, Vf P W0 c (S5 P G call n c)
 | 0, _, _, _, _, _, _, h, _ => by cases h
 | n + 1, c, s, ss, e, s', s1, h, hg => by
   have ih := fun {c : Code} => @Kw hm hG call hc n c
   simp only [S5] at h
   cases c <;> simp only [Tv] at h <;> try (cases h; done)
   case skip => simp only [iS, iP] at h; obtain ⟨rfl, rfl, rfl⟩ := h; exact ⟨hg, Ex.skip ⟨rfl, rfl⟩⟩
   case exit id => simp only [iS, iP] at h; obtain ⟨rfl, rfl, rfl⟩ := h; exact ⟨hg, Ex.exit ⟨rfl, rfl⟩⟩
   case ret => simp only [iS, iP] at h; obtain ⟨rfl, rfl, rfl⟩ := h; exact ⟨hg, Ex.ret ⟨rfl, rfl⟩⟩
   case region id ops d =>
    split at h
    · rename_i t t1 h1
      simp only [iS, iP] at h
      obtain ⟨rfl, rfl, rfl⟩ := h
      cases d with
      | true => exact A2t hm hG hc h1 hg
      | false =>
        obtain ⟨k1, k2⟩ := Rh (G := G) hc h1 hg
        exact ⟨k1, Ex.region hG (k2 ⟨rfl, rfl⟩)⟩
    · cases h
   case seq x y =>
    split at h
    · rename_i t t1 h1
      obtain ⟨k1, k2⟩ := ih _ _ _ _ _ h hg
      obtain ⟨k3, k4⟩ := ih _ _ _ _ _ h1 k1
      refine ⟨k3, Ex.seq (k4.mono ?_)⟩
      rintro e2 s2 ⟨rfl, rfl⟩
      exact k2
    · rename_i hne
      obtain ⟨k3, k4⟩ := ih _ _ _ _ _ h hg
      refine ⟨k3, Ex.seq (k4.mono ?_)⟩
      rintro e2 s2 ⟨rfl, rfl⟩
      cases e2 with
      | normal => exact absurd h (hne s2 s1)
      | exit id => exact ⟨rfl, rfl⟩
      | ret => exact ⟨rfl, rfl⟩
   case cond c x y =>
    split at h
    · rename_i c' hc'
      split at h
      · rename_i b hb
        cases b with
        | true =>
          obtain ⟨k1, k2⟩ := ih _ _ _ _ _ h hg
          exact ⟨k1, Ex.cond hG hc' hb (fun _ => k2) (fun e => by cases e)⟩
        | false =>
          obtain ⟨k1, k2⟩ := ih _ _ _ _ _ h hg
          exact ⟨k1, Ex.cond hG hc' hb (fun e => by cases e) (fun _ => k2)⟩
      · cases h
    · cases h
   case block id c =>
    split at h
    · rename_i j t t1 h1
      have hgt : Gd P W0 t1 := by
       cases hj : Nat.beq j id with
       | true => rw [hj] at h; simp only [cond_true, iS, iP] at h; obtain ⟨_, _, rfl⟩ := h; exact hg
       | false => rw [hj] at h; simp only [cond_false, iS, iP] at h; obtain ⟨_, _, rfl⟩ := h; exact hg
      obtain ⟨k3, k4⟩ := ih _ _ _ _ _ h1 hgt
      refine ⟨k3, Ex.block (k4.mono ?_)⟩
      rintro e2 s2 ⟨rfl, rfl⟩
      simp only [Am.inBlock]
      cases hj : Nat.beq j id with
      | true => rw [hj] at h; simp only [cond_true, iS, iP] at h; exact ⟨h.1, h.2.1⟩
      | false => rw [hj] at h; simp only [cond_false, iS, iP] at h; exact ⟨h.1, h.2.1⟩
    · rename_i hne
      obtain ⟨k3, k4⟩ := ih _ _ _ _ _ h hg
      refine ⟨k3, Ex.block (k4.mono ?_)⟩
      rintro e2 s2 ⟨rfl, rfl⟩
      cases e2 with
      | normal => exact ⟨rfl, rfl⟩
      | exit id => exact absurd h (hne id s2 s1)
      | ret => exact ⟨rfl, rfl⟩
   case loop c => exact ⟨Rq (ih (c := c)) h hg, A1i (ih (c := c)) h hg⟩
theorem A0y {fn : Func} {kp : Bool} {H : Hz} {r : Option (Am × St × SS)} {v : AVal} {H' : Hz} {ss : SS} (h : finS P fn kp H r = some (v, H', ss)) : ∃ e s, r = some (e, s, ss) ∧ (match e with | .exit _ => False | _ => True) ∧ ∃ vs, D3 P s fn.results.toList = some vs ∧ (J4 H.length (Hw vs) s.H = (v, H') ∨ (Hw vs, s.H) = (v, H')) := by
 unfold finS at h
 split at h
 · rename_i e s ss'
   split at h
   · rename_i v' H'' hf
     simp only [iS, iP] at h
     obtain ⟨rfl, rfl, rfl⟩ := h
     refine ⟨e, s, rfl, ?_⟩
     unfold A36 at hf
     cases e with
     | exit id => cases hf
     | normal =>
       simp only at hf
       split at hf
       · rename_i vs hvs
         injection hf with hf
         refine ⟨trivial, vs, hvs, ?_⟩
         cases kp with
         | true => rw [cond_true] at hf; exact .inr hf
         | false => rw [cond_false] at hf; exact .inl hf
       · cases hf
     | ret =>
       simp only at hf
       split at hf
       · rename_i vs hvs
         injection hf with hf
         refine ⟨trivial, vs, hvs, ?_⟩
         cases kp with
         | true => rw [cond_true] at hf; exact .inr hf
         | false => rw [cond_false] at hf; exact .inl hf
       · cases hf
   · cases h
 · cases h
theorem Rn (hm : P.follows .mixedOrders = true) (hG : GOK W0 G) {idle : Nat → Option Nat} (hi : ∀ g m, idle g = some m → Ta P g m ∧ E1 P g) {tab : CallF} (ht : Do P W0 tab) {keep opq : Nat → Bool} (fuel : Nat) : ∀ d, Ce P W0 (Es P G keep opq idle tab fuel d)
 | 0, _, _, _, _, _, _, _, h, _ => by cases h
 | d + 1, f, args, H, ss, v, H', s1, h, hg => by
   have ih := Rn hm hG hi ht (keep := keep) (opq := opq) fuel d
   simp only [Es] at h
   cases hq : opq f with
   | true =>
     rw [hq, cond_true] at h
     unfold ansS at h
     split at h
     · rename_i v0 r0 _
       cases hb : cond (A8 0 args) (blw 0 v0) false with
       | false => rw [hb] at h; cases h
       | true =>
         rw [hb] at h
         simp only [cond_true, iS, iP] at h
         obtain ⟨rfl, rfl, rfl⟩ := h
         obtain ⟨b1, b2⟩ := K2 hb
         exact ⟨fun o ho => hg o (by simp [ho]), A1.pure b1 b2 (hg (.call f args _) (by simp)) H⟩
     · rename_i v0 H0 r0 _
       simp only [iS, iP] at h
       obtain ⟨rfl, rfl, rfl⟩ := h
       exact ⟨fun o ho => hg o (by simp [ho]), hg (.callH f args H _ _) (by simp)⟩
     · cases h
   | false =>
     rw [hq, cond_false] at h
     split at h
     · rename_i r hr
       simp only [iS, iP] at h
       obtain ⟨rfl, rfl, rfl⟩ := h
       exact ⟨hg, ht _ _ _ _ _ hr⟩
     · split at h
       · rename_i fn hfn
         split at h
         · rename_i c hc
           cases hla : (Nat.ble args.length 4094 && !(fn.name == "runtime.NumGoroutine")) with
           | false => rw [hla] at h; cases h
           | true =>
             rw [hla, cond_true] at h
             simp only [bAt, Bool.not_eq_true', bFn] at hla
             have hlen := Nat.le_of_ble_eq_true hla.1
             obtain ⟨e, s, hrun, hpost⟩ := A0y h
             split at hrun
             · rename_i b hb
               have hsh : ∃ r0 r1 id ops rest, c = .seq r0 (.seq r1 (.seq (.region id ops false) rest)) ∧ Rb idle r0 r1 id rest ops.toList = some b := by
                unfold La at hb
                split at hb
                · exact ⟨_, _, _, _, _, rfl, hb⟩
                · cases hb
               obtain ⟨r0, r1, id, ops, rest, rfl, hb⟩ := hsh
               obtain ⟨k1, k2, k3, k4, k5, k6, k7, k8, k9⟩ := R2 hb
               obtain ⟨hidle, hgb⟩ := hi _ _ k9
               subst k1; subst k2; subst k3; subst k4
               have hops : ops = #[b.o0, b.o1] := by apply Array.ext'; simpa using k5
               unfold A2d at hrun
               split at hrun
               · rename_i s0 t0 he0
                 split at hrun
                 · rename_i s1' t1 he1
                   split at hrun
                   · rename_i s2 t2 he2
                     cases hfa : A1a s2.env b.t b.g b.m with
                     | false => rw [hfa] at hrun; cases hrun
                     | true =>
                       rw [hfa, cond_true] at hrun
                       obtain ⟨g3, x3⟩ := Kw hm hG ih fuel _ _ _ _ _ hrun hg
                       obtain ⟨g2, x2⟩ := Ue (G := G) ih he2 g3
                       obtain ⟨g1, x1⟩ := Kw hm hG ih fuel _ _ _ _ _ he1 g2
                       obtain ⟨g0, x0⟩ := Kw hm hG ih fuel _ _ _ _ _ he0 g1
                       refine ⟨g0, A1.of_defer hG hfn hc hla.2 hidle hgb hops k6 k7 k8 hlen (x0.mono ?_)⟩
                       rintro e1 s1'' ⟨rfl, rfl⟩
                       refine ⟨rfl, x1.mono ?_⟩
                       rintro e1 s1'' ⟨rfl, rfl⟩
                       refine ⟨rfl, ?_⟩
                       rw [hops]
                       refine x2 ⟨?_, x3.mono ?_⟩
                       · unfold A1a at hfa
                         split at hfa
                         · rename_i g' c' hget
                           simp only [bAt] at hfa
                           have h1 := nBq hfa.1
                           have h2 := nBq hfa.2
                           subst h1
                           exact ⟨c', hget, h2⟩
                         · cases hfa
                       · rintro e1 s1'' ⟨rfl, rfl⟩
                         exact hpost
                   · cases hrun
                 · cases hrun
               · cases hrun
             · obtain ⟨g0, x0⟩ := Kw hm hG ih fuel _ _ _ _ _ hrun hg
               refine ⟨g0, A1.of_ex hfn hc hla.2 hlen (x0.mono ?_)⟩
               rintro e1 s1'' ⟨rfl, rfl⟩
               exact hpost
         · cases h
       · cases h
end
def ss0 (k : Nat) (br : List (Bool × Nat)) (sk : Nat) (sd : List Nat) (ans : List (AVal × Option Hz)) (dr : List Nat) : SS := ⟨k, br, sk, sd, ans, dr, []⟩
theorem Dm {P : Program} {W0 : World} {call : CallS} (hc : Ce P W0 call) {f : Nat} {args : List AVal} {H : Hz} {ss s1 : SS} {v : AVal} {H' : Hz} (h : call f args H ss = some (v, H', s1)) (hg : ∀ o ∈ s1.obs, o.ok P W0) : A1 P W0 f args H v H' := (hc _ _ _ _ _ _ _ h hg).2
theorem gdN {P : Program} {W0 : World} : ∀ o ∈ ([] : List Ob), o.ok P W0 := fun o h => by cases h
theorem gdC {P : Program} {W0 : World} {o : Ob} {l : List Ob} (h : o.ok P W0) (hl : ∀ o ∈ l, o.ok P W0) : ∀ o' ∈ o :: l, o'.ok P W0 := fun o' h' => by
 rcases List.mem_cons.1 h' with rfl | h'
 · exact h
 · exact hl o' h'
mutual
def noId (i : Nat) : AVal → Bool
 | .agg cs => Hq i cs
 | .tup cs => Hq i cs
 | .row _ es => Hq i es
 | .hsl _ id _ _ _ => !(Nat.beq id i)
 | .ptr id _ => !(Nat.beq id i)
 | .mref id => !(Nat.beq id i)
 | .optr id _ _ => !(Nat.beq id i)
 | .eptr e _ => noId i e
 | .fn _ a c => cond (Hq i a) (Hq i c) false
 | .iface _ x => noId i x
 | _ => true
def Hq (i : Nat) : List AVal → Bool
 | [] => true
 | v :: r => cond (noId i v) (Hq i r) false
end
def A2a (i : Nat) : A2 → Bool
 | .cells _ cs _ => Hq i cs
 | _ => true
section
variable {F : Nat → Prop} {bs : List Nat} {H : Hz} {w : World} {i : Nat} {o' : A2}
theorem Jo {a b : Nat} (h : (!(Nat.beq a b)) = true) : a ≠ b := fun e => by subst e; simp [Nat.beq_refl] at h
theorem Jg {id : Nat} (h : id ≠ i) : (H.set i o')[id]? = H[id]? := List.getElem?_set_ne (Ne.symm h)
mutual
theorem Rep.noId : ∀ (a : AVal) (v : Value), Rep F bs H w a v → noId i a = true → Rep F bs (H.set i o') w a v
 | .bool _, _, hr, _ | .int _ _, _, hr, _ | .str _, _, hr, _ | .nilSl, _, hr, _ | .emp, _, hr, _ | .nilPtr, _, hr, _ | .nilFn, _, hr, _ | .nilMp, _, hr, _ | .nilIf, _, hr, _ => by simpa only [Rep] using hr
 | .agg cs, _, hr, hb => by
   simp only [Rep] at hr ⊢
   obtain ⟨vs, hv, hl⟩ := hr
   exact ⟨vs, hv, A5.noId cs vs hl hb⟩
 | .tup cs, _, hr, hb => by
   simp only [Rep] at hr ⊢
   obtain ⟨vs, hv, hl⟩ := hr
   exact ⟨vs, hv, A5.noId cs vs hl hb⟩
 | .row k es, _, hr, hb => by
   simp only [Rep] at hr ⊢
   obtain ⟨a, cap, vs, hv, hl, hk, hrow⟩ := hr
   exact ⟨a, cap, vs, hv, A5.noId es vs hl hb, hk, hrow⟩
 | .hsl k id off len cap, _, hr, hb => by
   simp only [Rep] at hr ⊢
   have hne := Jo hb
   refine ⟨hr.1, ?_⟩
   unfold Bn
   rw [Jg hne]
   exact hr.2
 | .ptr id off, _, hr, hb => by
   simp only [Rep] at hr ⊢
   have hne := Jo hb
   refine ⟨hr.1, ?_⟩
   unfold Dx
   rw [Jg hne]
   exact hr.2
 | .mref id, _, hr, hb => by
   simp only [Rep] at hr ⊢
   have hne := Jo hb
   refine ⟨hr.1, ?_⟩
   unfold Fb
   rw [Jg hne]
   exact hr.2
 | .optr id off len, _, hr, hb => by
   simp only [Rep] at hr ⊢
   have hne := Jo hb
   refine ⟨hr.1, ?_⟩
   unfold Dy
   rw [Jg hne]
   exact hr.2
 | .eptr e off, _, hr, hb => by
   simp only [Rep] at hr ⊢
   obtain ⟨b, base, u, hv, he, h⟩ := hr
   exact ⟨b, base, u, hv, Rep.noId e u he hb, h⟩
 | .fn f first cap, _, hr, hb => by
   simp only [Rep] at hr ⊢
   obtain ⟨fs, cs, hv, h1, h2⟩ := hr
   simp only [Abs.noId] at hb
   cases hf : Hq i first with
   | false => rw [hf] at hb; cases hb
   | true => rw [hf] at hb; exact ⟨fs, cs, hv, A5.noId first fs h1 hf, A5.noId cap cs h2 hb⟩
 | .iface t x, _, hr, hb => by
   simp only [Rep] at hr ⊢
   obtain ⟨u, hv, hx⟩ := hr
   exact ⟨u, hv, Rep.noId x u hx hb⟩
theorem A5.noId : ∀ (az : List AVal) (vs : List Value), A5 F bs H w az vs → Hq i az = true → A5 F bs (H.set i o') w az vs
 | [], _, hr, _ => by simpa only [A5] using hr
 | a :: az, _, hr, hb => by
   simp only [A5] at hr ⊢
   obtain ⟨u, us, hv, h1, h2⟩ := hr
   simp only [Hq] at hb
   cases ha : Abs.noId i a with
   | false => rw [ha] at hb; cases hb
   | true => rw [ha] at hb; exact ⟨u, us, hv, Rep.noId a u h1 ha, A5.noId az us h2 hb⟩
end
def Wc (i : Nat) (H : Hz) : Bool := H.all (A2a i)
theorem A7.close {W0 : World} (hh : A7 W0 F bs H w) {T : TypeId} {cs : List AVal} (ho : H[i]? = some (.cells T cs true)) (hT : Nat.blt T 1000000 = true) (hn : Wc i H = true) : A7 W0 F bs (H.set i (.cells T cs false)) w := by
 have hall : ∀ (j : Nat) (o : A2), H[j]? = some o → A2a i o = true := fun j o hj => List.all_eq_true.1 hn o (mGe hj)
 refine ⟨by simp [hh.len], hh.base, hh.low, hh.nodup, hh.forb, fun j o b hj hb => ?_⟩
 by_cases hij : i = j
 · subst hij
   rw [List.getElem?_set_self (List.getElem?_eq_some_iff.1 ho).1] at hj
   injection hj with hj
   subst hj
   obtain ⟨vs, rest, fr, h1, h2, h3⟩ := hh.obj i _ b ho hb
   obtain rfl := h3 hT
   rw [Hj hT] at h1
   exact ⟨vs, rest, (0, 0), h1, A5.noId cs vs h2 (hall i _ ho), fun j _ => by simp⟩
 · rw [List.getElem?_set_ne hij] at hj
   have h0 := hh.obj j o b hj hb
   have hn := hall j o hj
   cases o with
   | dead => trivial
   | iter s p => exact h0
   | mp es => exact h0
   | cells T' cs' op =>
     cases op with
     | false => obtain ⟨vs, rest, fr, h1, h2, h3⟩ := h0; exact ⟨vs, rest, fr, h1, A5.noId cs' vs h2 hn, h3⟩
     | true => obtain ⟨vs, rest, fr, h1, h2, h3⟩ := h0; exact ⟨vs, rest, fr, h1, A5.noId cs' vs h2 hn, h3⟩
def ClV (i n : Nat) (v2 v : AVal) : Prop := v2 = v ∧ (noId i v = true ∨ ∃ k len cap, v = .hsl k i 0 len cap ∧ len * k = n)
structure Cl (m i : Nat) (s1 s2 : St) : Prop where
 le : m ≤ i
 n : s1.n = s2.n
 H : ∃ T cs, s2.H[i]? = some (.cells T cs true) ∧ Nat.blt T 1000000 = true ∧ Wc i s2.H = true ∧ s1.H = s2.H.set i (.cells T cs false) ∧ ∀ t v, s1.env.get t = some v → ∃ v2, s2.env.get t = some v2 ∧ ClV i cs.length v2 v
theorem RS.close {W0 : World} {s1 s2 : St} {a : Act} (hs : RS W0 F bs s2 a w) {m : Nat} (hc : Cl m i s1 s2) {bs0 : List Nat} {H0 : Hz} {w0 : World} (he : Ext bs0 H0 w0 bs s2.H w) (hm : H0.length = m) :
 RS W0 F bs s1 a w ∧ Ext bs0 H0 w0 bs s1.H w := by
 obtain ⟨hle, hn, T, cs, ho, hT, hno, hH, henv⟩ := hc
 refine ⟨⟨by rw [hH]; exact hs.heap.close ho hT hno, by rw [hs.size, hn], fun t v hv => ?_⟩, ⟨he.size, he.block, he.new, fun j o hj => ?_⟩⟩
 · obtain ⟨v2, h1, rfl, h2⟩ := henv t v hv
   have hr := hs.env t v2 h1
   rw [hH]
   rcases h2 with h2 | ⟨k, len, cap, rfl, h2⟩
   · exact Rep.noId v2 _ hr h2
   · simp only [Rep] at hr ⊢
     refine ⟨hr.1, ?_⟩
     have h3 := hr.2
     unfold Bn at h3 ⊢
     rw [ho] at h3
     rw [List.getElem?_set_self (List.getElem?_eq_some_iff.1 ho).1]
     obtain ⟨q1, q2⟩ := h3
     refine ⟨q1, fun _ => ?_⟩
     obtain ⟨b, c, r1, r2, r3, r4, _⟩ := q2 (fun _ => ⟨rfl, h2⟩)
     exact ⟨b, c, r1, r2, r3, r4, by simp⟩
 · obtain ⟨o', h1, h2⟩ := he.obj j o hj
   have hjl := (List.getElem?_eq_some_iff.1 hj).1
   exact ⟨o', by rw [hH, List.getElem?_set_ne (by omega)]; exact h1, h2⟩
end
section
variable {P : Program} {W0 : World} {m i : Nat} {K : Am → St → Prop}
theorem ExM.cl {a : ACode} {s1 s2 : St} (hf : Cl m i s1 s2) (h : ExM P W0 m a s1 K) : ExM P W0 m a s2 K := fun c hc F bs x w hs bs0 H0 w0 hm he Q hq => by
 obtain ⟨h1, h2⟩ := hs.close hf he hm
 exact h c hc F bs x w h1 bs0 H0 w0 hm h2 Q hq
end
def U0 (i n : Nat) (e : Env) : List (Nat × AVal) → Prop
 | [] => True
 | p :: r => (∃ v2, e.get p.1 = some v2 ∧ ClV i n v2 p.2) ∧ U0 i n e r
theorem W1 {i n : Nat} {e : Env} : ∀ {l : List (Nat × AVal)}, U0 i n e l → ∀ p ∈ l, ∃ v2, e.get p.1 = some v2 ∧ ClV i n v2 p.2
 | [], _, _, h => by cases h
 | q :: r, ha, p, h => by
   rcases List.mem_cons.1 h with rfl | h
   · exact ha.1
   · exact W1 ha.2 p h
theorem Xq {t : Nat} {v : AVal} : ∀ {l : List (Nat × AVal)}, lk t l = some v → (t, v) ∈ l
 | [], h => by cases h
 | (u, x) :: l, h => by
   simp only [lk] at h
   cases hb : Nat.beq t u with
   | true =>
     rw [hb] at h
     simp only [cond_true, iS] at h
     have := nBq hb
     subst this; subst h
     simp
   | false => rw [hb] at h; exact List.mem_cons_of_mem _ (Xq h)
theorem clMk {m i : Nat} {l : List (Nat × AVal)} {H : Hz} {n : Nat} {s : St} {T : TypeId} {cs : List AVal} (hle : m ≤ i) (hn : n = s.n) (ho : s.H[i]? = some (.cells T cs true)) (hT : Nat.blt T 1000000 = true) (hno : Wc i s.H = true) (hH : s.H.set i (.cells T cs false) = H) (h : U0 i cs.length s.env l) : Cl m i ⟨.al l, H, n⟩ s :=
 ⟨hle, hn, T, cs, ho, hT, hno, hH.symm, fun t v hv => W1 h (t, v) (Xq hv)⟩
theorem clH {i n t : Nat} {e : Env} {k len : Nat} {cap : Option Nat} {r : List (Nat × AVal)} (h : e.get t = some (.hsl k i 0 len cap)) (hf : len * k = n) (q : U0 i n e r) : U0 i n e ((t, .hsl k i 0 len cap) :: r) := ⟨⟨_, h, rfl, .inr ⟨k, len, cap, rfl, hf⟩⟩, q⟩
theorem clN {i n : Nat} {e : Env} : U0 i n e [] := trivial
section
variable {F : Nat → Prop} {bs : List Nat} {H : Hz} {w : World} {i : Nat}
end
section
variable {P : Program} {W0 : World} {G : List (Nat × AVal)} {m n : Nat} {e : Env} {H : Hz}
end
section
variable {P : Program} {W0 : World} {m : Nat}
def Ep (P : Program) (W0 : World) (m : Nat) (c : ACode) (K : Am → St → Prop) : Nat → St → Prop
 | 0, _ => False
 | n + 1, s => ExM P W0 m c s fun e s' => e.then s' (Ep P W0 m c K n) K
theorem Ep.step {c : ACode} {K : Am → St → Prop} {n : Nat} {s : St} (h : ExM P W0 m c s fun e s' => e.then s' (Ep P W0 m c K n) K) : Ep P W0 m c K (n + 1) s := h
theorem ExM.unroll {c : ACode} {K : Am → St → Prop} (n : Nat) {s : St} (h : Ep P W0 m c K n s) : ExM P W0 m (.loop c) s K := fun k hk => by
 obtain ⟨k', rfl, hk'⟩ := Jm hk
 intro F bs a w hs bs0 H0 w0 hm he Q hq
 refine Gp (σ := Nat) (fun i a' w' => ∃ s' bs', Ep P W0 m c K i s' ∧ RS W0 F bs' s' a' w' ∧ Ext bs0 H0 w0 bs' s'.H w' ∧ a'.defers = a.defers) id (s := n) ⟨s, bs, h, hs, he, rfl⟩ ?_
 rintro i a1 w1 ⟨s1, bs1, hi, hrs1, hext1, hd1⟩
 cases i with
 | zero => exact hi.elim
 | succ i =>
   refine hi k' hk' F bs1 a1 w1 hrs1 bs0 H0 w0 hm hext1 _ fun e s' bs' a' w' hkk hrs hext hd => ?_
   cases e with
   | normal => exact ⟨i, ⟨s', bs', hkk, hrs, hext, hd.trans hd1⟩, Nat.lt_succ_self i⟩
   | exit id => exact hq (.exit id) s' bs' a' w' hkk hrs hext (hd.trans hd1)
   | ret => exact hq .ret s' bs' a' w' hkk hrs hext (hd.trans hd1)
end
end Go.Abs
namespace Go.Abs
open Go.RowKit
structure Sm (s1 s2 : St) : Prop where
 n : s1.n = s2.n
 H : s1.H = s2.H
 env : ∀ t v, s1.env.get t = some v → s2.env.get t = some v
theorem RS.sub {W0 : World} {F : Nat → Prop} {bs : List Nat} {s1 s2 : St} {a : Act} {w : World} (hs : RS W0 F bs s2 a w) (h : Sm s1 s2) : RS W0 F bs s1 a w :=
 ⟨by rw [h.H]; exact hs.heap, by rw [hs.size, h.n], fun t u hu => by rw [h.H]; exact hs.env t u (h.env t u hu)⟩
section
variable {P : Program} {W0 : World} {m : Nat}
theorem ExM.loopS {c : ACode} {σ : Type} (st : σ → St) (I : σ → Prop) (μ : σ → Nat) (i : σ) {s : St} {K : Am → St → Prop} (h0 : Sm (st i) s) (hI : I i)
 (round : ∀ i, I i → ExM P W0 m c (st i) fun e s' => e.then s' (fun s' => ∃ j, I j ∧ μ j < μ i ∧ Sm (st j) s') K) : ExM P W0 m (.loop c) s K := fun k hk => by
 obtain ⟨k', rfl, hk'⟩ := Jm hk
 intro F bs a w hs bs0 H0 w0 hm he Q hq
 refine Gp (σ := σ) (fun i a' w' => ∃ bs', I i ∧ RS W0 F bs' (st i) a' w' ∧ Ext bs0 H0 w0 bs' (st i).H w' ∧ a'.defers = a.defers) μ (s := i) ?_ ?_
 · exact ⟨bs, hI, hs.sub h0, by rw [h0.H]; exact he, rfl⟩
 · rintro i a1 w1 ⟨bs1, hi, hrs1, hext1, hd1⟩
   refine round i hi k' hk' F bs1 a1 w1 hrs1 bs0 H0 w0 hm hext1 _ fun e s' bs' a' w' hkk hrs hext hd => ?_
   cases e with
   | normal =>
     obtain ⟨j, hj, hlt, hw⟩ := hkk
     exact ⟨j, ⟨bs', hj, hrs.sub hw, by rw [hw.H]; exact hext, hd.trans hd1⟩, hlt⟩
   | exit id => exact hq (.exit id) s' bs' a' w' hkk hrs hext (hd.trans hd1)
   | ret => exact hq .ret s' bs' a' w' hkk hrs hext (hd.trans hd1)
theorem ExM.sub {a : ACode} {s1 s2 : St} {K : Am → St → Prop} (hf : Sm s1 s2) (h : ExM P W0 m a s1 K) : ExM P W0 m a s2 K := fun c hc F bs x w hs bs0 H0 w0 hm he Q hq =>
 h c hc F bs x w (hs.sub hf) bs0 H0 w0 hm (by rw [hf.H]; exact he) Q hq
end
def Ks (e : Env) : List (Nat × AVal) → Prop
 | [] => True
 | p :: r => e.get p.1 = some p.2 ∧ Ks e r
theorem Tf {e : Env} : ∀ {l : List (Nat × AVal)}, Ks e l → ∀ p ∈ l, e.get p.1 = some p.2
 | [], _, _, h => by cases h
 | q :: r, ha, p, h => by
   rcases List.mem_cons.1 h with rfl | h
   · exact ha.1
   · exact Tf ha.2 p h
theorem Ac {l : List (Nat × AVal)} {H : Hz} {n : Nat} {s : St} (hn : n = s.n) (hH : H = s.H) (h : Ks s.env l) : Sm ⟨.al l, H, n⟩ s := ⟨hn, hH, fun t v hv => Tf h (t, v) (Xq hv)⟩
theorem sbC {t : Nat} {e : Env} {v : AVal} {r : List (Nat × AVal)} (h : e.get t = some v) (k : Ks e r) : Ks e ((t, v) :: r) := ⟨h, k⟩
theorem sbN {e : Env} : Ks e [] := trivial
theorem sb4 {a b c d : Nat} {e : Env} {v x y z : AVal} {r : List (Nat × AVal)} (h : e.get a = some v) (h2 : e.get b = some x) (h3 : e.get c = some y) (h4 : e.get d = some z) (k : Ks e r) : Ks e ((a, v) :: (b, x) :: (c, y) :: (d, z) :: r) := ⟨h, h2, h3, h4, k⟩
end Go.Abs
namespace Go.Abs
open Go.RowKit
section
variable {P : Program} {W0 : World} {G : List (Nat × AVal)}
def U5 (P : Program) (W0 : World) (G : List (Nat × AVal)) : Option AOper → St → (St → Prop) → Prop
 | some o, s, K => B5 P W0 G o s fun v H' => Et o.dst s.n = true ∧ K ⟨Fa o.dst v s.env, H', s.n⟩
 | none, _, _ => False
theorem drawL (hm : P.follows .mixedOrders = true) (hg : GOK W0 G) {id : Nat} {ops : Array Oper} {l : List AOper} (hc : Aw P ops ops.toList = some l) (hsp : H8 P ops (C3 P ops.toList) = true) (hb : To (C3 P ops.toList) = true) {s : St} {K : Am → St → Prop}
 (h : Bi P W0 G l.dropLast s fun s1 => U5 P W0 G l.getLast? s1 (K .normal)) : Ex P W0 (.region id ops true) s K := by
 have hN0 : (C3 P ops.toList).n = ops.size := by
  have := hsp
  simp only [H8, bAt] at this
  exact nBq this.1.1.1.1
 generalize C3 P ops.toList = sp at hsp hb hN0
 obtain ⟨hcl, hcg⟩ := Ci hc
 have hsz : l.length = ops.size := by rw [hcl]; simp
 simp only [To, bAt] at hb
 obtain ⟨⟨⟨hst, h1n⟩, heff⟩, hk⟩ := hb
 have h1n := Nat.le_of_ble_eq_true h1n
 have hstates : sp.states = [0, SP.nxt 0 (sp.n - 1)] := by
  split at hst
  · rename_i a b hab
    simp only [bAt] at hst
    rw [hab, nBq hst.1, nBq hst.2]
  · cases hst
 have hne : l ≠ [] := by intro e; rw [e] at hsz; simp at hsz; omega
 obtain ⟨vs, r1, r2, r3⟩ := M7 h
 have hlast : l.getLast? = some (l.getLast hne) := List.getLast?_eq_some_getLast hne
 rw [hlast] at r2
 obtain ⟨vL, HL, q1, q2, q3⟩ := Nz r2
 have hdl : l.dropLast.length = l.length - 1 := List.length_dropLast
 have hlN : l.length - 1 = sp.n - 1 := by omega
 let env : Nat → Env := fun j => D5 l.dropLast vs s.env j
 let tr : List Tr := (List.range (sp.n - 1)).map (fun j => { env := env j, v := (vs[j]?).getD .nilIf, σ := 0 }) ++ [{ env := env (sp.n - 1), v := vL, σ := 0 }]
 have htl : tr.length = ops.size := by simp [tr]; omega
 have htr : ∀ j, j < sp.n - 1 → tr[j]? = some { env := env j, v := (vs[j]?).getD .nilIf, σ := 0 } := fun j hj => by
  simp only [tr]
  rw [List.getElem?_append_left (by simpa using hj)]
  simp [hj]
 have htrL : tr[sp.n - 1]? = some { env := env (sp.n - 1), v := vL, σ := 0 } := by
  simp only [tr]
  rw [List.getElem?_append_right (by simp)]
  simp
 have hfront : ∀ (j : Nat) (o : Oper), ops[j]? = some o → j < sp.n - 1 → ∃ v, vs[j]? = some v ∧ D7 P W0 G ops o ⟨env j, s.H, s.n⟩ (fun v' H' => v' = v ∧ H' = s.H) ∧ Et o.dst s.n = true ∧ env (j + 1) = Fa o.dst v (env j) := by
  intro j o ho hj
  obtain ⟨a, ha, hca⟩ := hcg j o (by simpa using ho)
  have ha' : l.dropLast[j]? = some a := by rw [List.getElem?_dropLast]; rw [if_pos (by omega)]; exact ha
  obtain ⟨v, b1, b2, b3, b4⟩ := r3 j a ha'
  rw [Df hca] at b3 b4
  exact ⟨v, b1, Fp hca b2, b3, b4⟩
 have hL : ∀ (o : Oper), ops[sp.n - 1]? = some o → D7 P W0 G ops o ⟨env (sp.n - 1), s.H, s.n⟩ (fun v' H' => v' = vL ∧ H' = HL) ∧ Et o.dst s.n = true ∧ (l.getLast hne).dst = o.dst := by
  intro o ho
  obtain ⟨a, ha, hca⟩ := hcg (sp.n - 1) o (by simpa using ho)
  have hal : l.getLast hne = a := by
   have := List.getLast_eq_getElem hne
   rw [this]
   have h2 : l[l.length - 1]? = some a := by rw [hlN]; exact ha
   exact (List.getElem?_eq_some_iff.1 h2).2
  rw [hal] at q1 q2
  rw [Df hca] at q2
  have henv : D5 l.dropLast vs s.env l.dropLast.length = env (sp.n - 1) := by show D5 _ _ _ _ = D5 _ _ _ _; rw [hdl, hlN]
  rw [henv] at q1
  refine ⟨Fp hca q1, q2, ?_⟩
  rw [hal, Df hca]
 have hbit : tb (SP.nxt 0 (sp.n - 1)) (sp.n - 1) = true := (Vs 0 (sp.n - 1) (sp.n - 1)).2 (.inr rfl)
 have hk' : ∀ j, j < sp.n - 1 → sp.kind.getD j 0 = 0 ∨ (sp.kind.getD j 0 = 1 ∧ sp.msk (sp.n - 1) j = true) := by
  intro j hj
  have := List.all_eq_true.1 hk j (List.mem_range.2 hj)
  simp only [Bool.or_eq_true, bAt] at this
  rcases this with h | ⟨h, h'⟩
  · exact .inl (nBq h)
  · exact .inr ⟨nBq h, h'⟩
 have hkind : ∀ (j : Nat) (o : Oper), ops[j]? = some o → sp.kind.getD j 0 = Br P o := by
  intro j o ho
  have h0 := hsp
  simp only [H8, bAt] at h0
  have := List.all_eq_true.1 h0.2 j (List.mem_range.2 (Array.getElem?_eq_some_iff.1 ho).1)
  rw [ho] at this
  simp only [Q7, bAt] at this
  exact nBq this.1.2
 have h0ne : (0 : Nat) ≠ SP.nxt 0 (sp.n - 1) := fun e => by
  rw [← e] at hbit
  rw [tb, Nat.zero_testBit] at hbit
  cases hbit
 have hl0 : lkH 0 [(0, s.H), (SP.nxt 0 (sp.n - 1), HL)] = some s.H := C4 _ _ _
 have hl1 : lkH (SP.nxt 0 (sp.n - 1)) [(0, s.H), (SP.nxt 0 (sp.n - 1), HL)] = some HL := by
  simp only [lkH]
  have : Nat.beq (SP.nxt 0 (sp.n - 1)) 0 = false := by
   cases hb : Nat.beq (SP.nxt 0 (sp.n - 1)) 0 with
   | false => rfl
   | true => exact absurd (nBq hb).symm h0ne
  rw [this]
  simp [Nat.beq_refl]
 have hfin : sp.fin = SP.nxt 0 (sp.n - 1) := by
  have h0 := hsp
  simp only [H8, bAt] at h0
  have h4 := List.all_eq_true.1 h0.1.2 (SP.nxt 0 (sp.n - 1)) (by rw [hstates]; simp)
  have hall : sp.allIn (SP.nxt 0 (sp.n - 1)) = true := by
   unfold SP.allIn
   rw [lAt]
   intro i hi
   have hi' := List.mem_range.1 hi
   cases he : sp.eff i with
   | false => rfl
   | true =>
     rw [cond_true]
     by_cases hil : i = sp.n - 1
     · rw [hil]; exact hbit
     · have := hk' i (by omega)
       unfold SP.eff at he
       have := Nat.le_of_ble_eq_true he
       omega
  rw [hall, cond_true] at h4
  exact (nBq h4).symm
 have hplan := P0 (W0 := W0) (G := G) (s := s) hsp (l := tr) (M' := [(0, s.H), (SP.nxt 0 (sp.n - 1), HL)]) (ef := Fa (l.getLast hne).dst vL (env (sp.n - 1))) (Hfin := HL) htl ?_ hl0 ?_ ?_ ?_ (by rw [hfin]; exact hl1)
 · obtain ⟨p, hp, he⟩ := hplan
   refine Ex.draw hm hg hp ?_
   rw [← he]
   have henv : D5 l.dropLast vs s.env l.dropLast.length = env (sp.n - 1) := by show D5 _ _ _ _ = D5 _ _ _ _; rw [hdl, hlN]
   rw [henv] at q3
   exact q3
 ·
  unfold Bh
  by_cases h1 : sp.n - 1 = 0
  · have := htrL
    rw [h1] at this
    rw [this]
    show env 0 = s.env
    show D5 _ _ _ 0 = _
    cases l.dropLast <;> cases vs <;> rfl
  · rw [htr 0 (by omega)]
    show D5 _ _ _ 0 = _
    cases l.dropLast <;> cases vs <;> rfl
 · intro j o ho
   have hj := (Array.getElem?_eq_some_iff.1 ho).1
   by_cases hjl : j = sp.n - 1
   · subst hjl
     obtain ⟨c1, c2, c3⟩ := hL o ho
     refine ⟨_, htrL, c2, ?_⟩
     unfold Bh
     have : tr[sp.n - 1 + 1]? = none := by rw [List.getElem?_eq_none_iff]; omega
     rw [this, c3]
     rfl
   · have hjlt : j < sp.n - 1 := by omega
     obtain ⟨v, b1, b2, b3, b4⟩ := hfront j o ho hjlt
     refine ⟨_, htr j hjlt, b3, ?_⟩
     have hnext : Bh tr (Fa (l.getLast hne).dst vL (env (sp.n - 1))) (j + 1) = env (j + 1) := by
      unfold Bh
      by_cases hj2 : j + 1 = sp.n - 1
      · rw [hj2, htrL]; rfl
      · rw [htr (j + 1) (by omega)]; rfl
     rw [hnext, b4, b1]
     rfl
 · intro j o t ho ht hko σ hσ hmay
   have hj := (Array.getElem?_eq_some_iff.1 ho).1
   have hjlt : j < sp.n - 1 := by
    by_cases hjl : j = sp.n - 1
    · exfalso
      have h2 := hkind j o ho
      rw [hjl] at h2
      unfold SP.eff at heff
      have := Nat.le_of_ble_eq_true heff
      omega
    · omega
   obtain ⟨v, b1, b2, b3, b4⟩ := hfront j o ho hjlt
   rw [htr j hjlt] at ht
   injection ht with ht
   subst ht
   rw [hstates] at hσ
   simp only [List.mem_cons, List.not_mem_nil, or_false] at hσ
   rcases hσ with rfl | rfl
   · exact ⟨s.H, hl0, by rw [b1]; exact b2⟩
   · refine ⟨HL, hl1, ?_⟩
     rcases hk' j hjlt with hk0 | ⟨hk1, hmk⟩
     · rw [b1]
       exact Jq (by rw [← hkind j o ho]; exact hk0) b2
     · exfalso
       have hm2 := (Rw (p := sp) (σ := SP.nxt 0 (sp.n - 1)) (j := j) hN0).1 hmay
       have := hm2.2 (sp.n - 1) (by omega) heff hmk
       rw [hbit] at this
       cases this
 · intro σ hσ j hj
   unfold SP.steps at hj
   rw [List.mem_filter, List.mem_range] at hj
   obtain ⟨hjn, hj⟩ := hj
   simp only [bAt, Bool.not_eq_true'] at hj
   have hjl : j = sp.n - 1 := by
    by_cases hjl : j = sp.n - 1
    · exact hjl
    · exfalso
      have := hk' j (by omega)
      have he := hj.1.1
      unfold SP.eff at he
      have := Nat.le_of_ble_eq_true he
      omega
   subst hjl
   rw [hstates] at hσ
   simp only [List.mem_cons, List.not_mem_nil, or_false] at hσ
   have hσ0 : σ = 0 := by
    rcases hσ with h | h
    · exact h
    · rw [h, hbit] at hj; cases hj.1.2
   subst hσ0
   have ho : ops[sp.n - 1]? = some (ops[sp.n - 1]'(by omega)) := Array.getElem?_eq_getElem (by omega)
   obtain ⟨c1, c2, c3⟩ := hL _ ho
   exact ⟨_, _, s.H, HL, ho, htrL, hl0, c1, hl1⟩
theorem ExM.drawL (hg : Gr P W0 G) {m : Nat} {l : List AOper} {s : St} {K : Am → St → Prop} (h : Bi P W0 G l.dropLast s fun s1 => U5 P W0 G l.getLast? s1 (K .normal)) : ExM P W0 m (.draw l true) s K := ExM.of fun c hc => by
 obtain ⟨id, ops, rfl, h1, h2, h3⟩ := Lx hc
 exact Go.Abs.drawL hg.mixed hg.g h1 h2 h3 h
variable {l : List (Nat × AVal)} {H H' : Hz} {n : Nat} {K : St → Prop}
theorem Zb {d : Nat} {op : AOp} {f : Nat} {args : List AVal} {v : AVal} (h : aop G ⟨.al l, H, n⟩ op = some (.call f args)) (hd : (Nat.blt d n && Nat.blt d 4094) = true) (hc : A1 P W0 f args H v H') (k : K ⟨.al ((d, v) :: l), H', n⟩) : U5 P W0 G (some ⟨some d, none, op⟩) ⟨.al l, H, n⟩ K := by
 simp only [U5, B5, h]
 exact ⟨v, H', hc, hd, k⟩
end
def i8s (l : List Int) : List AVal := l.map (AVal.int .i8)
def nb (b : Bool) (l : List Int) (m : Bool) : List AVal := .bool b :: (i8s l ++ [.bool m])
theorem Dk (l : List Int) : (i8s l).length = l.length := by simp [i8s]
theorem Dt (b : Bool) (l : List Int) (m : Bool) : (nb b l m).length = l.length + 2 := by simp [nb, i8s]
theorem Zt (l : List Int) : (i8s l).all AVal.one = true := by
 induction l with
 | nil => rfl
 | cons d l ih => exact ih
theorem nb_one (b : Bool) (l : List Int) (m : Bool) : (nb b l m).all AVal.one = true := by
 show ((i8s l ++ [AVal.bool m]).all AVal.one) = true
 rw [List.all_append, Zt]; rfl
theorem blwL_i8 {n : Nat} (l : List Int) (r : List AVal) : A8 n (i8s l ++ r) = A8 n r := by
 induction l with
 | nil => rfl
 | cons d l ih => exact ih
theorem Eb {n : Nat} (b : Bool) (l : List Int) (m : Bool) : A8 n (nb b l m) = true := by
 show A8 n (i8s l ++ [AVal.bool m]) = true
 rw [blwL_i8]; rfl
theorem A09 {b m : Bool} {l : List Int} {n : Nat} (h : n < l.length) : (nb b l m).drop (1 + n) = .int .i8 (l.getD n 0) :: ((i8s l).drop (n + 1) ++ [.bool m]) := by
 rw [Nat.add_comm 1 n]
 show (i8s l ++ [AVal.bool m]).drop n = _
 have h2 : n < (i8s l).length := by rw [Dk]; exact h
 rw [List.drop_append_of_le_length (by omega), List.drop_eq_getElem_cons h2]
 simp [i8s, List.getD_eq_getElem?_getD, h]
theorem Zd {b m : Bool} {l : List Int} {n : Nat} (h : n ≤ l.length) : (nb b l m).take (1 + n) = .bool b :: i8s (l.take n) := by
 rw [Nat.add_comm 1 n]
 show AVal.bool b :: ((i8s l ++ [AVal.bool m]).take n) = _
 rw [List.take_append_of_le_length (by rw [Dk]; exact h), i8s, i8s, List.map_take]
theorem nb_set {b m : Bool} {l : List Int} {n : Nat} {v : Int} (h : n < l.length) : spl (nb b l m) (1 + n) [.int .i8 v] = nb b (l.set n v) m := by
 have h1 : (nb b l m).drop (1 + n + 1) = (i8s l).drop (n + 1) ++ [AVal.bool m] := by
  have := congrArg List.tail (A09 (b := b) (m := m) h)
  rw [List.tail_drop] at this
  exact this
 show (nb b l m).take (1 + n) ++ ([.int .i8 v] ++ (nb b l m).drop (1 + n + [AVal.int .i8 v].length)) = _
 rw [Zd (Nat.le_of_lt h)]
 show AVal.bool b :: (i8s (l.take n)) ++ ([.int .i8 v] ++ (nb b l m).drop (1 + n + 1)) = _
 rw [h1, nb, i8s, i8s, i8s, List.set_eq_take_append_cons_drop, if_pos h, List.map_append, List.map_cons, List.map_drop]
 simp
section
variable {G : List (Nat × AVal)} {s : St} {id T : Nat} {b m : Bool} {l : List Int}
theorem Q3 {x i : AOpd} {n : Nat} (hx : ev G s x = some (.ptr id 1)) (hi : ev G s i = some (.int .i64 (n : Nat))) (ho : s.H[id]? = some (.cells T (nb b l m) false)) : aop G s (.idxArr 96 1 x i) = some (.val (.ptr id (1 + n)) s.H [(0, (n : Nat)), ((n : Nat) + 1, 96)]) := by
 have hl : Gv s.H id = true := by unfold Gv; rw [ho]
 simp only [aop, hx, hi, V1, hl, cond_true, Int.toNat_natCast, Nat.mul_one]
 rfl
theorem Qi {a : AOpd} {n : Nat} (ha : ev G s a = some (.ptr id (1 + n))) (ho : s.H[id]? = some (.cells T (nb b l m) false)) (hn : n < l.length) : aop G s (.load 1 false a) = some (.val (.int .i8 (l.getD n 0)) s.H []) := by
 simp only [aop, ha, Hy, ho, Bg, A09 hn]
 rfl
theorem Rz {a x : AOpd} {n : Nat} {v : Int} {H' : Hz} (ha : ev G s a = some (.ptr id (1 + n))) (hx : ev G s x = some (.int .i8 v)) (ho : s.H[id]? = some (.cells T (nb b l m) false)) (hn : n < l.length) (hH : s.H.set id (.cells T (nb b (l.set n v) m) false) = H') : aop G s (.store 1 a x) = some (.skip H') := by
 subst hH
 have h1 : Nat.ble (1 + n + 1) (nb b l m).length = true := by rw [Dt]; exact Nat.ble_eq_true_of_le (by omega)
 have h2 : (Nat.beq [AVal.int .i8 v].length 1 && Nat.ble (1 + n + 1) (nb b l m).length && [AVal.int .i8 v].all AVal.one) = true := by rw [h1]; rfl
 simp only [aop, ha, hx, Lu, ho]
 show (match (cond (Nat.beq [AVal.int .i8 v].length 1 && Nat.ble (1 + n + 1) (nb b l m).length && [AVal.int .i8 v].all AVal.one) (some (s.H.set id (.cells T (spl (nb b l m) (1 + n) [.int .i8 v]) false))) none) with | some H' => some (ARes.skip H') | none => none) = _
 rw [h2, nb_set hn]
 rfl
theorem A20 {a : AOpd} (ha : ev G s a = some (.ptr id 1)) (ho : s.H[id]? = some (.cells T (nb b l m) false)) (hl : l.length = 96) : aop G s (.load 96 true a) = some (.val (.agg (i8s l)) s.H []) := by
 have h1 : ((nb b l m).drop 1).take 96 = i8s l := by
  show (i8s l ++ [AVal.bool m]).take 96 = _
  rw [List.take_append_of_le_length (by rw [Dk, hl]; exact Nat.le_refl _), List.take_of_length_le (by rw [Dk, hl]; exact Nat.le_refl _)]
 simp only [aop, ha, Hy, ho, Bg, h1, Dk, hl]
 rfl
theorem Y4 {a : AOpd} (ha : ev G s a = some (.ptr id 0)) (ho : s.H[id]? = some (.cells T (nb b l m) false)) (hl : l.length = 96) : aop G s (.load 98 true a) = some (.val (.agg (nb b l m)) s.H []) := by
 have h1 : ((nb b l m).drop 0).take 98 = nb b l m := by
  rw [List.drop_zero, List.take_of_length_le (by rw [Dt, hl]; exact Nat.le_refl _)]
 simp only [aop, ha, Hy, ho, Bg, h1, Dt, hl]
 rfl
theorem loadNb {a : AOpd} (ha : ev G s a = some (.ptr id 0)) (ho : s.H[id]? = some (.cells T (nb b l m) false)) : aop G s (.load 1 false a) = some (.val (.bool b) s.H []) := by
 simp only [aop, ha, Hy, ho, Bg]
 rfl
theorem loadNm {a : AOpd} (ha : ev G s a = some (.ptr id 97)) (ho : s.H[id]? = some (.cells T (nb b l m) false)) (hl : l.length = 96) : aop G s (.load 1 false a) = some (.val (.bool m) s.H []) := by
 have h1 : (nb b l m).drop 97 = [AVal.bool m] := by
  show (i8s l ++ [AVal.bool m]).drop 96 = _
  rw [List.drop_append_of_le_length (by rw [Dk, hl]; exact Nat.le_refl _), List.drop_of_length_le (by rw [Dk, hl]; exact Nat.le_refl _)]
  rfl
 simp only [aop, ha, Hy, ho, Bg, h1]
 rfl
theorem storeNm {a x : AOpd} {v : Bool} {H' : Hz} (ha : ev G s a = some (.ptr id 97)) (hx : ev G s x = some (.bool v)) (ho : s.H[id]? = some (.cells T (nb b l m) false)) (hl : l.length = 96) (hH : s.H.set id (.cells T (nb b l v) false) = H') : aop G s (.store 1 a x) = some (.skip H') := by
 subst hH
 have h0 : (nb b l m).length = 98 := by rw [Dt, hl]
 have h3 : spl (nb b l m) 97 [AVal.bool v] = nb b l v := by
  show (nb b l m).take (1 + 96) ++ ([AVal.bool v] ++ (nb b l m).drop 98) = _
  rw [Zd (by omega), List.drop_of_length_le (by omega), List.take_of_length_le (by omega)]
  rfl
 simp only [aop, ha, hx, Lu, ho]
 show (match (cond (Nat.beq [AVal.bool v].length 1 && Nat.ble (97 + 1) (nb b l m).length && [AVal.bool v].all AVal.one) (some (s.H.set id (.cells T (spl (nb b l m) 97 [AVal.bool v]) false))) none) with | some H' => some (ARes.skip H') | none => none) = _
 rw [h0, h3]
 rfl
theorem cutN {x hi : AOpd} {n : Nat} (hx : ev G s x = some (.ptr id 1)) (hhi : ev G s hi = some (.int .i64 (n : Nat))) (ho : s.H[id]? = some (.cells T (nb b l m) false)) (hl : l.length = 96) : aop G s (.cutArr 96 1 x (some hi)) = some (.val (.hsl 1 id 1 n (some 96)) s.H [(0, (n : Nat)), ((n : Nat), 96)]) := by
 have h0 : Nat.ble (1 + 96 * 1) (nb b l m).length = true := by rw [Dt, hl]; rfl
 simp only [aop, hx, oev, hhi, Qb, ho, h0, cond_true]
 rfl
def clr (l : List Int) (n : Nat) : List Int := List.replicate n 0 ++ l.drop n
theorem Y5 {l : List Int} {n : Nat} (h : n ≤ l.length) : (clr l n).length = l.length := by simp [clr]; omega
theorem clearN {x : AOpd} {n : Nat} {H' : Hz} {c : Option Nat} (hx : ev G s x = some (.hsl 1 id 1 n c)) (ho : s.H[id]? = some (.cells T (nb b l m) false)) (hl : n ≤ l.length) (hH : s.H.set id (.cells T (nb b (clr l n) m) false) = H') : aop G s (.clear 1 [.int .i8 0] x) = some (.val (.tup []) H' []) := by
 subst hH
 have hz : Ia [.int .i8 0] (n * 1) = i8s (List.replicate n 0) := by
  rw [Nat.mul_one, Ia, i8s, List.map_replicate, List.eq_replicate_iff]
  refine ⟨by simp, fun b hb => ?_⟩
  obtain ⟨j, _, rfl⟩ := List.mem_map.1 hb
  have : j % [AVal.int .i8 0].length = 0 := Nat.mod_one j
  rw [this]; rfl
 have h3 : spl (nb b l m) 1 (i8s (List.replicate n 0)) = nb b (clr l n) m := by
  show AVal.bool b :: (i8s (List.replicate n 0) ++ (nb b l m).drop (1 + (i8s (List.replicate n 0)).length)) = _
  rw [Dk, List.length_replicate, Nat.add_comm 1 n]
  show AVal.bool b :: (i8s (List.replicate n 0) ++ (i8s l ++ [AVal.bool m]).drop n) = _
  rw [List.drop_append_of_le_length (by rw [Dk]; exact hl), nb, clr]
  simp [i8s]
 simp only [aop, hx, Us, ho, hz, h3, Nat.beq_refl, cond_true, Zt]
 cases h0 : Nat.beq n 0 with
 | false => rfl
 | true =>
   have := nBq h0
   subst this
   show some (ARes.val (.tup []) s.H []) = _
   have : nb b (clr l 0) m = nb b l m := by simp [clr]
   rw [this, R9 ho]
end
theorem U8 {l : List Int} {i : Nat} (h : i < l.length) : H9 1 false (i * 1) (.agg (i8s l)) = some (.int .i8 (l.getD i 0)) := by
 have hlt : i < (i8s l).length := by rw [Dk]; exact h
 have : (i8s l).drop (i * 1) = .int .i8 (l.getD i 0) :: (i8s l).drop (i + 1) := by
  rw [Nat.mul_one, List.drop_eq_getElem_cons hlt]
  simp [i8s, List.getD_eq_getElem?_getD, h]
 simp only [H9, this]
theorem Zv {l l' : List Int} : ∀ (k i : Nat), i + k ≤ l.length → i + k ≤ l'.length → ∃ c, aeq (Pq 1 false .i i k) (.agg (i8s l)) (.agg (i8s l')) = some c
 | 0, _, _, _ => ⟨true, rfl⟩
 | k + 1, i, h1, h2 => by
   obtain ⟨c, hc⟩ := Zv (l := l) (l' := l') k (i + 1) (by omega) (by omega)
   refine ⟨(l.getD i 0 == l'.getD i 0) && c, ?_⟩
   simp only [Pq, aeq, U8 (show i < l.length by omega), U8 (show i < l'.length by omega), hc]
   rfl
section
variable {H X : Hz} {id j : Nat} {o x : A2}
theorem gA (h : H[id]? = some o) : (H ++ X)[id]? = some o := by
 rw [List.getElem?_append_left (List.getElem?_eq_some_iff.1 h).1]; exact h
theorem gSt (hne : j ≠ id) (h : H[id]? = some o) : (H.set j x)[id]? = some o := by
 rw [List.getElem?_set_ne hne]; exact h
theorem gT (h : id < H.length) : (H.set id x)[id]? = some x := List.getElem?_set_self h
theorem gL : (H ++ [x])[H.length]? = some x := List.getElem?_concat_length
theorem gL2 : (H ++ [o, x])[H.length + 1]? = some x := by
 rw [List.getElem?_append_right (Nat.le_succ _)]; simp
theorem gLt (h : H[id]? = some o) : id < H.length := (List.getElem?_eq_some_iff.1 h).1
theorem L9 (h : id < H.length) : (H ++ X).set id x = H.set id x ++ X := by
 rw [List.set_append_left _ _ h]
theorem Qs {n : Nat} (h : B2 n H = true) (hx : B2 n [x] = true) : B2 n (H.set id x) = true := by
 induction H generalizing id with
 | nil => exact h
 | cons a r ih =>
   cases id with
   | zero =>
     cases a <;> cases x <;> simp only [List.set_cons_zero, B2] at h hx ⊢ <;> first | exact h | simp_all
   | succ i =>
     simp only [List.set_cons_succ]
     cases a with
     | cells T cs op =>
       simp only [B2] at h ⊢
       cases hc : A8 n cs with
       | false => rw [hc] at h; cases h
       | true => rw [hc] at h; exact ih h
     | iter s p => exact ih h
     | mp es => exact ih h
     | dead => exact ih h
theorem F3 {n : Nat} : ∀ {H X : Hz}, B2 n H = true → B2 n X = true → B2 n (H ++ X) = true
 | [], _, _, hx => hx
 | .cells T cs op :: r, X, h, hx => by
   simp only [List.cons_append, B2] at h ⊢
   cases hc : A8 n cs with
   | false => rw [hc] at h; cases h
   | true => rw [hc] at h; exact F3 h hx
 | .iter s p :: r, X, h, hx => F3 (H := r) h hx
 | .mp es :: r, X, h, hx => F3 (H := r) h hx
 | .dead :: r, X, h, hx => F3 (H := r) h hx
end
mutual
theorem O0 {n k : Nat} (hk : n ≤ k) : ∀ (a : AVal), blw n a = true → blw k a = true
 | .agg cs, h => G7 hk cs h
 | .tup cs, h => G7 hk cs h
 | .row _ es, h => G7 hk es h
 | .hsl _ id _ _ _, h => by simp only [blw, Nat.blt_eq] at h ⊢; omega
 | .ptr id _, h => by simp only [blw, Nat.blt_eq] at h ⊢; omega
 | .mref id, h => by simp only [blw, Nat.blt_eq] at h ⊢; omega
 | .optr id _ _, h => by simp only [blw, Nat.blt_eq] at h ⊢; omega
 | .eptr e _, h => O0 hk e h
 | .fn _ a c, h => by
   simp only [blw] at h ⊢
   cases ha : A8 n a with
   | false => rw [ha] at h; cases h
   | true => rw [ha] at h; rw [G7 hk a ha]; exact G7 hk c h
 | .iface _ x, h => O0 hk x h
 | .bool _, _ | .int _ _, _ | .str _, _ | .nilSl, _ | .emp, _ | .nilPtr, _ | .nilFn, _ | .nilMp, _ | .nilIf, _ => rfl
theorem G7 {n k : Nat} (hk : n ≤ k) : ∀ (l : List AVal), A8 n l = true → A8 k l = true
 | [], _ => rfl
 | v :: r, h => by
   simp only [A8] at h ⊢
   cases hv : blw n v with
   | false => rw [hv] at h; cases h
   | true => rw [hv] at h; rw [O0 hk v hv]; exact G7 hk r h
end
theorem Hn {n k : Nat} (hk : n ≤ k) : ∀ {H : Hz}, B2 n H = true → B2 k H = true
 | [], _ => rfl
 | .cells T cs op :: r, h => by
   simp only [B2] at h ⊢
   cases hc : A8 n cs with
   | false => rw [hc] at h; cases h
   | true => rw [hc] at h; rw [G7 hk cs hc]; exact Hn hk h
 | .iter s p :: r, h => Hn (H := r) hk h
 | .mp es :: r, h => Hn (H := r) hk h
 | .dead :: r, h => Hn (H := r) hk h
theorem Bo {n : Nat} (l : Bz) : A8 n (u8c l) = true := by
 induction l with
 | nil => rfl
 | cons d l ih => exact ih
theorem blwH_u8 {n T : Nat} (l : Bz) : B2 n [.cells T (u8c l) true] = true := by
 show cond (A8 n (u8c l)) true false = true
 rw [Bo]; rfl
theorem Zq (l : Bz) : (u8c l).length = l.length := by simp [u8c]
theorem A1x (l : Bz) (b : UInt8) : u8c (l ++ [b]) = u8c l ++ [.int .u8 (b.toNat : Nat)] := by simp [u8c]
theorem u8c_app (l k : Bz) : u8c (l ++ k) = u8c l ++ u8c k := by simp [u8c]
section
variable {G : List (Nat × AVal)} {s : St} {id jd T n : Nat} {cs : List AVal}
theorem Gt {x : AOpd} {off : Nat} (hx : ev G s x = some (.ptr id off)) (ho : s.H[id]? = some (.cells T cs false)) : aop G s (.nilCheck x) = some (.val (.ptr id off) s.H []) := by
 have hl : Gv s.H id = true := by unfold Gv; rw [ho]
 simp only [aop, hx, anil, hl]
 rfl
theorem F5 {x : AOpd} {off k : Nat} (hx : ev G s x = some (.ptr id off)) (ho : s.H[id]? = some (.cells T cs false)) : aop G s (.fieldAddr k x) = some (.val (.ptr id (off + k)) s.H []) := by
 have hl : Gv s.H id = true := by unfold Gv; rw [ho]
 simp only [aop, hx, V1, hl]
 rfl
theorem Nw {x : AOpd} {off k : Nat} {g : Bool} {v : AVal} (hx : ev G s x = some (.ptr id off)) (ho : s.H[id]? = some (.cells T cs false)) (hr : Bg k g cs off = some v) : aop G s (.load k g x) = some (.val v s.H []) := by
 simp only [aop, hx, Hy, ho, hr]
 rfl
theorem It {a x : AOpd} {off k : Nat} {v : AVal} {H' : Hz} (ha : ev G s a = some (.ptr id off)) (hx : ev G s x = some v) (ho : s.H[id]? = some (.cells T cs false)) (hc : (Nat.beq v.cells.length k && Nat.ble (off + k) cs.length && v.cells.all AVal.one) = true) (hH : s.H.set id (.cells T (spl cs off v.cells) false) = H') : aop G s (.store k a x) = some (.skip H') := by
 subst hH
 simp only [aop, ha, hx, Lu, ho, hc]
 rfl
theorem A3i {x i : AOpd} {m : Nat} {c : Option Nat} (hx : ev G s x = some (.hsl 1 id 0 m c)) (hi : ev G s i = some (.int .i64 (n : Nat))) (ho : s.H[id]? = some (.cells T cs false)) : aop G s (.idxSl 1 x i) = some (.val (.ptr id n) s.H [(0, (n : Nat)), ((n : Nat) + 1, (m : Nat))]) := by
 have hl : Gv s.H id = true := by simp only [Gv, ho]
 simp only [aop, hx, hi, Int.toNat_natCast, hl, Nat.beq_refl, Bool.and_self, cond_true, Nat.mul_one, Nat.zero_add]
theorem A0u {l : List Nat} {i : Nat} (h : i < l.length) : (B4 l).drop i = .int .i64 (l.getD i 0 : Nat) :: (B4 l).drop (i + 1) := by
 have hlt : i < (B4 l).length := by rw [Av]; exact h
 rw [List.drop_eq_getElem_cons hlt]
 simp [B4, List.getD_eq_getElem?_getD, h]
theorem Xv {x : AOpd} {l : List Nat} (hx : ev G s x = some (.ptr id n)) (ho : s.H[id]? = some (.cells T (B4 l) false)) (hn : n < l.length) : aop G s (.load 1 false x) = some (.val (.int .i64 (l.getD n 0 : Nat)) s.H []) :=
 Nw hx ho (by rw [Bg, A0u hn]; rfl)
theorem oAppB {x y : AOpd} {l : Bz} {b : UInt8} {vd : Nat} {c c' : Option Nat} {H' : Hz} (hx : ev G s x = some (.hsl 1 jd 0 l.length c)) (hy : ev G s y = some (.hsl 1 vd 0 1 c')) (hj : s.H[jd]? = some (.cells 5 (u8c l) true)) (hv : s.H[vd]? = some (.cells 5 [.int .u8 (b.toNat : Nat)] false)) (hH : s.H.set jd (.cells 5 (u8c (l ++ [b])) true) = H') :
 aop G s (.append 5 1 1 x y) = some (.val (.hsl 1 jd 0 (l ++ [b]).length none) H' [(((l.length + 1) * 1 : Nat), C9), ((l.length + 1 : Nat), C9)]) := by
 subst hH
 have h2 : (l ++ [b]).length = l.length + 1 := by simp
 have hl : (u8c l).length = l.length * 1 := by rw [Zq, Nat.mul_one]
 have hy' : Dq 1 s.H (.hsl 1 vd 0 1 c') = some ([.int .u8 (b.toNat : Nat)], 1) := by
  simp only [Dq, hv]; rfl
 rw [h2, A1x]
 simp only [aop, hx, hy, Qj, hy', G9, hj, hl, Nat.beq_refl, cond_true, Bool.and_self]
 rfl
theorem oAppB0 {x y : AOpd} {b : UInt8} {vd : Nat} {c' : Option Nat} (hx : ev G s x = some .nilSl) (hy : ev G s y = some (.hsl 1 vd 0 1 c')) (hv : s.H[vd]? = some (.cells 5 [.int .u8 (b.toNat : Nat)] false)) :
 aop G s (.append 5 1 1 x y) = some (.val (.hsl 1 s.H.length 0 1 none) (s.H ++ [.cells 5 (u8c [b]) true]) [((1 * 1 : Nat), C9), ((1 : Nat), C9)]) := by
 have hy' : Dq 1 s.H (.hsl 1 vd 0 1 c') = some ([.int .u8 (b.toNat : Nat)], 1) := by
  simp only [Dq, hv]; rfl
 simp only [aop, hx, hy, Qj, hy', G9]
 rfl
theorem oAppS {x y : AOpd} {l k : Bz} {c : Option Nat} {H' : Hz} (hx : ev G s x = some (.hsl 1 jd 0 l.length c)) (hy : ev G s y = some (.str k)) (hk : k ≠ []) (hj : s.H[jd]? = some (.cells 5 (u8c l) true)) (hH : s.H.set jd (.cells 5 (u8c (l ++ k)) true) = H') :
 aop G s (.appS 5 x y) = some (.val (.hsl 1 jd 0 (l ++ k).length none) H' [((l.length + k.length : Nat), C9)]) := by
 subst hH
 have h0 : Nat.beq k.length 0 = false := by
  cases hb : Nat.beq k.length 0 with
  | false => rfl
  | true => exact absurd (List.length_eq_zero_iff.1 (nBq hb)) hk
 rw [lAp, u8c_app]
 simp only [aop, hx, hy, Xh, h0, cond_false, hj, Zq, Nat.beq_refl, cond_true, Bool.and_self]
theorem oAppS0 {x y : AOpd} {k : Bz} (hx : ev G s x = some .nilSl) (hy : ev G s y = some (.str k)) (hk : k ≠ []) :
 aop G s (.appS 5 x y) = some (.val (.hsl 1 s.H.length 0 k.length none) (s.H ++ [.cells 5 (u8c k) true]) [((k.length : Nat), C9)]) := by
 have h0 : Nat.beq k.length 0 = false := by
  cases hb : Nat.beq k.length 0 with
  | false => rfl
  | true => exact absurd (List.length_eq_zero_iff.1 (nBq hb)) hk
 simp only [aop, hx, hy, Xh, h0, cond_false]
theorem oMapGet {m k : AOpd} {md : Nat} {es : List (Bz × Int)} {q : Bz} (hm : ev G s m = some (.mref md)) (hk : ev G s k = some (.str q)) (ho : s.H[md]? = some (.mp es)) : aop G s (.mapGet m k) = some (.val (.int .i64 (Ln es q)) s.H []) := by
 simp only [aop, hm, hk, aget, ho]
 rfl
end
def A9 : Nat → Nat → Bz
 | 0, _ => []
 | k + 1, n => UInt8.ofNat (n / 256 ^ k) :: A9 k n
def Gs (w : Nat) (ns : List Nat) : Bz := ns.flatMap (A9 w)
theorem Ao : ∀ (k n : Nat), (A9 k n).length = k
 | 0, _ => rfl
 | k + 1, n => by simp [A9, Ao k]
theorem U6 (w : Nat) : ∀ (ns : List Nat), (Gs w ns).length = ns.length * w
 | [] => by simp [Gs]
 | n :: r => by
   have := U6 w r
   simp only [Gs, List.flatMap_cons, lAp, Ao, lCo] at this ⊢
   rw [this, Nat.add_mul]; omega
theorem A0e {n j : Nat} (hj : j ≤ 7) : AVal.int .u8 (IntKind.u8.wrap ((n : Int).fdiv (2 ^ (min ((8 * j : Nat) : Int).toNat 64)))) = .int .u8 ((UInt8.ofNat (n / 256 ^ j)).toNat : Nat) := by
 have h1 : min (((8 * j : Nat) : Int).toNat) 64 = 8 * j := by simp; omega
 have h2 : ((n : Int).fdiv (2 ^ (8 * j))) = ((n / 256 ^ j : Nat) : Int) := by
  have : (2 : Nat) ^ (8 * j) = 256 ^ j := by rw [Nat.pow_mul]
  rw [Int.fdiv_eq_ediv_of_nonneg _ (by exact Int.le_of_lt (Int.pow_pos (by decide)))]
  rw [← this]
  exact_mod_cast rfl
 rw [h1, h2]
 have h3 : (UInt8.ofNat (n / 256 ^ j)).toNat = (n / 256 ^ j) % 256 := by simp [UInt8.toNat_ofNat']
 rw [h3, IntKind.wrap_u8]
 rfl
def nEq : List Nat → List Nat → Bool
 | [], [] => true
 | a :: r, b :: s => cond (Nat.beq a b) (nEq r s) false
 | _, _ => false
theorem Yg : ∀ {l k : List Nat}, nEq l k = true → l = k
 | [], [], _ => rfl
 | [], _ :: _, h => by cases h
 | _ :: _, [], h => by cases h
 | a :: r, b :: s, h => by
   simp only [nEq] at h
   cases hb : Nat.beq a b with
   | true => rw [hb] at h; rw [nBq hb, Yg h]
   | false => rw [hb] at h; cases h
def Di (x : Nat) : HMap → Bool
 | [] => false
 | p :: r => cond (Nat.beq x p.1) true (Di x r)
theorem Qm {x : Nat} : ∀ {M : HMap}, Di x M = true → ∃ H, lkH x M = some H
 | [], h => by cases h
 | p :: r, h => by
   simp only [Di, lkH] at h ⊢
   cases hb : Nat.beq x p.1 with
   | true => exact ⟨p.2, rfl⟩
   | false => rw [hb] at h; exact Qm h
theorem R8 {x : Nat} {H : Hz} : ∀ {M : HMap}, lkH x M = some H → Di x M = true
 | [], h => by cases h
 | p :: r, h => by
   simp only [Di, lkH] at h ⊢
   cases hb : Nat.beq x p.1 with
   | true => rfl
   | false => rw [hb] at h; exact R8 h
theorem X9 {x y : Nat} {H : Hz} {M : HMap} : lkH x ((y, H) :: M) = if x = y then some H else lkH x M := by
 simp only [lkH]
 cases hb : Nat.beq x y with
 | true => rw [if_pos (nBq hb)]; rfl
 | false => rw [if_neg (Nat.ne_of_beq_eq_false hb)]; rfl
theorem Gf {x y : Nat} {H : Hz} {M : HMap} : Di x ((y, H) :: M) = true ↔ x = y ∨ Di x M = true := by
 simp only [Di]
 cases hb : Nat.beq x y with
 | true => simp [nBq hb]
 | false => simp [Nat.ne_of_beq_eq_false hb]
structure Pd where
 j : Nat
 o : AOper
 e : Env
 v : AVal
section
variable (P : Program) (W0 : World) (G : List (Nat × AVal))
def Ku (q : Pd) (H : Hz) (n : Nat) : Prop := B5 P W0 G q.o ⟨q.e, H, n⟩ fun v' H' => v' = q.v ∧ H' = H
def M3 (p : SP) (σ : Nat) (q : Pd) (n : Nat) : HMap → Prop
 | [] => True
 | x :: r => cond (Nat.beq x.1 σ || !(p.mayB x.1 q.j)) True (Ku P W0 G q x.2 n) ∧ M3 p σ q n r
def Ip (p : SP) (σ : Nat) (H : Hz) (n : Nat) : List Pd → Prop
 | [] => True
 | q :: r => cond (p.mayB σ q.j) (Ku P W0 G q H n) True ∧ Ip p σ H n r
def C0 (p : SP) : List AOper → Nat → Nat → HMap → List Pd → St → (St → Prop) → Prop
 | [], _, σ, M, _, s, K => (Nat.beq σ p.fin && nEq (p.steps σ) [] && p.states.all fun x => Di x M) = true ∧ K s
 | o :: r, j, σ, M, pd, s, K => B5 P W0 G o s fun v H' => Et o.dst s.n = true ∧
  cond (p.eff j)
   ((nEq (p.steps σ) [j] && !(Di (SP.nxt σ j) M)) = true ∧ Ip P W0 G p (SP.nxt σ j) H' s.n pd ∧ C0 p r (j + 1) (SP.nxt σ j) ((SP.nxt σ j, H') :: M) pd ⟨Fa o.dst v s.env, H', s.n⟩ K)
   (H' = s.H ∧ cond (Nat.beq (p.kind.getD j 0) 0) True (M3 P W0 G p σ ⟨j, o, s.env, v⟩ s.n M) ∧
    C0 p r (j + 1) σ M (cond (Nat.beq (p.kind.getD j 0) 0 || !(p.states.any fun x => !(Di x M) && p.mayB x j)) pd (⟨j, o, s.env, v⟩ :: pd)) ⟨Fa o.dst v s.env, s.H, s.n⟩ K)
end
section
variable {P : Program} {W0 : World} {G : List (Nat × AVal)} {p : SP}
theorem Qk {σ : Nat} {q : Pd} {n : Nat} : ∀ {M : HMap}, M3 P W0 G p σ q n M → ∀ {x : Nat} {H : Hz}, lkH x M = some H → x ≠ σ → p.mayB x q.j = true → Ku P W0 G q H n
 | [], _, _, _, h, _, _ => by cases h
 | y :: r, hp, x, H, h, hne, hm => by
   obtain ⟨h1, h2⟩ := hp
   obtain ⟨y1, y2⟩ := y
   rw [X9] at h
   by_cases hy : x = y1
   · subst hy
     rw [if_pos rfl] at h
     injection h with h
     subst h
     have hb : Nat.beq x σ = false := by
      cases hb : Nat.beq x σ with
      | false => rfl
      | true => exact absurd (nBq hb) hne
     rw [hb, hm] at h1
     exact h1
   · rw [if_neg hy] at h
     exact Qk h2 h hne hm
theorem Rj {σ : Nat} {H : Hz} {n : Nat} : ∀ {pd : List Pd}, Ip P W0 G p σ H n pd → ∀ q ∈ pd, p.mayB σ q.j = true → Ku P W0 G q H n
 | [], _, _, hq, _ => by cases hq
 | y :: r, hp, q, hq, hm => by
   obtain ⟨h1, h2⟩ := hp
   rcases List.mem_cons.1 hq with rfl | hq
   · rw [hm] at h1; exact h1
   · exact Rj h2 q hq hm
theorem N1 : ∀ {l : List AOper} {j σ : Nat} {M : HMap} {pd : List Pd} {s : St} {K : St → Prop}, C0 P W0 G p l j σ M pd s K → lkH σ M = some s.H →
 ∃ (vs : List AVal) (M' : HMap) (Hf : Hz), vs.length = l.length ∧ K ⟨D5 l vs s.env l.length, Hf, s.n⟩ ∧ lkH p.fin M' = some Hf ∧
  (∀ x H, lkH x M = some H → lkH x M' = some H) ∧ (∀ x ∈ p.states, Di x M' = true) ∧
  (∀ x, Di x M' = true → (Di x M = true ∧ x ≠ σ) ∨ p.steps x = [] ∨ ∃ k a v H2 H3, l[k]? = some a ∧ vs[k]? = some v ∧ p.steps x = [j + k] ∧ lkH x M' = some H2 ∧ lkH (SP.nxt x (j + k)) M' = some H3 ∧ B5 P W0 G a ⟨D5 l vs s.env k, H2, s.n⟩ (fun v' H' => v' = v ∧ H' = H3)) ∧
  (∀ k a, l[k]? = some a → ∃ v, vs[k]? = some v ∧ Et a.dst s.n = true ∧ D5 l vs s.env (k + 1) = Fa a.dst v (D5 l vs s.env k) ∧
   (p.eff (j + k) = false → ∃ H0, Ku P W0 G ⟨j + k, a, D5 l vs s.env k, v⟩ H0 s.n) ∧
   (p.eff (j + k) = false → p.kind.getD (j + k) 0 ≠ 0 → ∀ x ∈ p.states, ∀ H2, lkH x M' = some H2 → p.mayB x (j + k) = true → Ku P W0 G ⟨j + k, a, D5 l vs s.env k, v⟩ H2 s.n)) ∧
  (∀ q ∈ pd, ∀ x ∈ p.states, ∀ H2, lkH x M' = some H2 → Di x M = false → p.mayB x q.j = true → Ku P W0 G q H2 s.n)
 | [], j, σ, M, pd, s, K, h, hσ => by
   obtain ⟨h1, h2⟩ := h
   simp only [bAt] at h1
   obtain ⟨⟨a1, a2⟩, a3⟩ := h1
   have a1 := nBq a1
   have a2 := Yg a2
   refine ⟨[], M, s.H, rfl, h2, by rw [← a1]; exact hσ, fun _ _ h => h, fun x hx => List.all_eq_true.1 a3 x hx, fun x hx => ?_, fun k a hk => by simp at hk, fun q _ x _ H2 h3 h4 _ => ?_⟩
   · by_cases he : x = σ
     · subst he; exact .inr (.inl a2)
     · exact .inl ⟨hx, he⟩
   · rw [R8 h3] at h4; cases h4
 | o :: r, j, σ, M, pd, s, K, h, hσ => by
   unfold C0 at h
   obtain ⟨v, H', h1, h2, h3⟩ := Nz h
   cases heff : p.eff j with
   | true =>
     rw [heff, cond_true] at h3
     obtain ⟨b1, b2, b3⟩ := h3
     simp only [bAt, Bool.not_eq_true'] at b1
     obtain ⟨b0, b1⟩ := b1
     have b0 := Yg b0
     obtain ⟨vs, M', Hf, k1, k2, k3, k4, k5, k6, k7, k8⟩ := N1 b3 (C4 _ _ _)
     have hsig : lkH (SP.nxt σ j) M' = some H' := k4 _ _ (C4 _ _ _)
     have hpre : ∀ x H, lkH x M = some H → lkH x M' = some H := fun x H hx => k4 x H (by
      rw [X9, if_neg (fun e => by subst e; rw [R8 hx] at b1; cases b1)]; exact hx)
     refine ⟨v :: vs, M', Hf, by simp [k1], k2, k3, hpre, k5, fun x hx => ?_, fun k a hk => ?_, fun q hq x hxs H2 hx hkn hm => ?_⟩
     · rcases k6 x hx with ⟨c1, c2⟩ | c | ⟨k, a, v', H2, H3, c1, c2, c3, c4, c5, c6⟩
       · rcases Gf.1 c1 with c1 | c1
         · exact absurd c1 c2
         · by_cases he : x = σ
           · subst he
             refine .inr (.inr ⟨0, o, v, s.H, H', rfl, rfl, b0, hpre _ _ hσ, hsig, ?_⟩)
             exact h1
           · exact .inl ⟨c1, he⟩
       · exact .inr (.inl c)
       · refine .inr (.inr ⟨k + 1, a, v', H2, H3, by simpa using c1, by simpa using c2, ?_, c4, ?_, c6⟩)
         · rw [c3]; congr 1; omega
         · have : j + (k + 1) = j + 1 + k := by omega
           rw [this]; exact c5
     · cases k with
       | zero =>
         simp only [List.getElem?_cons_zero, iS] at hk
         subst hk
         refine ⟨v, rfl, h2, ?_, fun hc => ?_, fun hc => ?_⟩
         · show D5 r vs _ 0 = _
           cases r <;> cases vs <;> rfl
         · rw [Nat.add_zero, heff] at hc; cases hc
         · rw [Nat.add_zero, heff] at hc; cases hc
       | succ k =>
         simp only [List.getElem?_cons_succ] at hk ⊢
         have : j + (k + 1) = j + 1 + k := by omega
         rw [this]
         exact k7 k a hk
     · by_cases he : x = SP.nxt σ j
       · subst he
         rw [hsig] at hx; injection hx with hx; subst hx
         exact Rj b2 q hq hm
       · refine k8 q hq x hxs H2 hx ?_ hm
         cases hkk : Di x ((SP.nxt σ j, H') :: M) with
         | false => rfl
         | true =>
           rcases Gf.1 hkk with c | c
           · exact absurd c he
           · rw [hkn] at c; cases c
   | false =>
     rw [heff, cond_false] at h3
     obtain ⟨b1, b2, b3⟩ := h3
     subst b1
     obtain ⟨vs, M', Hf, k1, k2, k3, k4, k5, k6, k7, k8⟩ := N1 b3 hσ
     refine ⟨v :: vs, M', Hf, by simp [k1], k2, k3, k4, k5, fun x hx => ?_, fun k a hk => ?_, fun q hq x hxs H2 hx hkn hm => ?_⟩
     · rcases k6 x hx with c | c | ⟨k, a, v', H2, H3, c1, c2, c3, c4, c5, c6⟩
       · exact .inl c
       · exact .inr (.inl c)
       · refine .inr (.inr ⟨k + 1, a, v', H2, H3, by simpa using c1, by simpa using c2, ?_, c4, ?_, c6⟩)
         · rw [c3]; congr 1; omega
         · have : j + (k + 1) = j + 1 + k := by omega
           rw [this]; exact c5
     · cases k with
       | zero =>
         simp only [List.getElem?_cons_zero, iS] at hk
         subst hk
         refine ⟨v, rfl, h2, ?_, fun _ => ⟨s.H, h1⟩, fun _ hk0 x hxs H2 hx hm => ?_⟩
         · show D5 r vs _ 0 = _
           cases r <;> cases vs <;> rfl
         · rw [Nat.add_zero] at hk0 hm
           have hkb : Nat.beq (p.kind.getD j 0) 0 = false := by
            cases hb : Nat.beq (p.kind.getD j 0) 0 with
            | false => rfl
            | true => exact absurd (nBq hb) hk0
           rw [hkb, cond_false] at b2
           cases hkn : Di x M with
           | true =>
             obtain ⟨H3, h3⟩ := Qm hkn
             have := k4 _ _ h3
             rw [hx] at this; injection this with this; subst this
             by_cases he : x = σ
             · subst he
               rw [hσ] at h3; injection h3 with h3; subst h3
               exact h1
             · exact Qk b2 h3 he hm
           | false =>
             have hany : (p.states.any fun x => !(Di x M) && p.mayB x j) = true := List.any_eq_true.2 ⟨x, hxs, by rw [hkn, hm]; rfl⟩
             refine k8 ⟨j, o, s.env, v⟩ ?_ x hxs H2 hx hkn hm
             rw [hkb, hany]
             exact List.mem_cons_self
       | succ k =>
         simp only [List.getElem?_cons_succ] at hk ⊢
         have : j + (k + 1) = j + 1 + k := by omega
         rw [this]
         exact k7 k a hk
     · refine k8 q ?_ x hxs H2 hx hkn hm
       cases (Nat.beq (p.kind.getD j 0) 0 || !(p.states.any fun x => !(Di x M) && p.mayB x j)) with
       | true => exact hq
       | false => exact List.mem_cons_of_mem _ hq
theorem drawC (hm : P.follows .mixedOrders = true) (hg : GOK W0 G) {id : Nat} {ops : Array Oper} {l : List AOper} (hc : Aw P ops ops.toList = some l) (hsp : H8 P ops p = true) {s : St} {K : Am → St → Prop}
 (h : C0 P W0 G p l 0 0 [(0, s.H)] [] s (K .normal)) : Ex P W0 (.region id ops true) s K := by
 obtain ⟨hcl, hcg⟩ := Ci hc
 have hsz : l.length = ops.size := by rw [hcl]; simp
 have hkind : ∀ (j : Nat) (o : Oper), ops[j]? = some o → p.kind.getD j 0 = Br P o := by
  intro j o ho
  have h0 := hsp
  simp only [H8, bAt] at h0
  have := List.all_eq_true.1 h0.2 j (List.mem_range.2 (Array.getElem?_eq_some_iff.1 ho).1)
  rw [ho] at this
  simp only [Q7, bAt] at this
  exact nBq this.1.2
 obtain ⟨vs, M', Hf, r1, r2, r3, r4, r5, r6, r7, _⟩ := N1 h (C4 _ _ _)
 let tr : List Tr := (List.range ops.size).map fun j => { env := D5 l vs s.env j, v := (vs[j]?).getD .nilIf, σ := 0 }
 have htl : tr.length = ops.size := by simp [tr]
 have htr : ∀ j, j < ops.size → tr[j]? = some { env := D5 l vs s.env j, v := (vs[j]?).getD .nilIf, σ := 0 } := fun j hj => by simp [tr, hj]
 have hget : ∀ (j : Nat) (o : Oper), ops[j]? = some o → ∃ a v, l[j]? = some a ∧ B6 P ops o = some a ∧ vs[j]? = some v ∧ Et o.dst s.n = true ∧ D5 l vs s.env (j + 1) = Fa o.dst v (D5 l vs s.env j) ∧
  (p.eff j = false → ∃ H0, D7 P W0 G ops o ⟨D5 l vs s.env j, H0, s.n⟩ fun v' H' => v' = v ∧ H' = H0) ∧
  (p.eff j = false → p.kind.getD j 0 ≠ 0 → ∀ x ∈ p.states, ∀ H2, lkH x M' = some H2 → p.mayB x j = true → D7 P W0 G ops o ⟨D5 l vs s.env j, H2, s.n⟩ fun v' H' => v' = v ∧ H' = H2) := by
  intro j o ho
  obtain ⟨a, ha, hca⟩ := hcg j o (by simpa using ho)
  obtain ⟨v, b1, b2, b3, b4, b5⟩ := r7 j a ha
  rw [Df hca] at b2 b3
  rw [Nat.zero_add] at b4 b5
  refine ⟨a, v, ha, hca, b1, b2, b3, fun he => ?_, fun he hk x hx H2 hl hm => Fp hca (b5 he hk x hx H2 hl hm)⟩
  obtain ⟨H0, h0⟩ := b4 he
  exact ⟨H0, Fp hca h0⟩
 have hplan := P0 (W0 := W0) (G := G) (s := s) hsp (l := tr) (M' := M') (ef := D5 l vs s.env ops.size) (Hfin := Hf) htl ?_ (r4 _ _ (C4 _ _ _)) ?_ ?_ ?_ r3
 · obtain ⟨pl, hp, he⟩ := hplan
   refine Ex.draw hm hg hp ?_
   rw [← he, ← hsz]
   exact r2
 · unfold Bh
   by_cases h0 : 0 < ops.size
   · rw [htr 0 h0]
     show D5 _ _ _ 0 = _
     cases l <;> cases vs <;> rfl
   · have hz : ops.size = 0 := by omega
     have : tr[0]? = none := by rw [List.getElem?_eq_none_iff]; omega
     rw [this, hz]
     show D5 _ _ _ 0 = _
     cases l <;> cases vs <;> rfl
 · intro j o ho
   have hj := (Array.getElem?_eq_some_iff.1 ho).1
   obtain ⟨a, v, a1, a2, a3, a4, a5, _⟩ := hget j o ho
   refine ⟨_, htr j hj, a4, ?_⟩
   have hnext : Bh tr (D5 l vs s.env ops.size) (j + 1) = D5 l vs s.env (j + 1) := by
    unfold Bh
    by_cases hj2 : j + 1 < ops.size
    · rw [htr (j + 1) hj2]; rfl
    · have : tr[j + 1]? = none := by rw [List.getElem?_eq_none_iff]; omega
      rw [this]
      have : j + 1 = ops.size := by omega
      rw [this]; rfl
   rw [hnext, a5, a3]
   rfl
 · intro j o t ho ht hko σ hσ hmay
   have hj := (Array.getElem?_eq_some_iff.1 ho).1
   rw [htr j hj] at ht
   injection ht with ht
   subst ht
   obtain ⟨a, v, a1, a2, a3, a4, a5, a6, a7⟩ := hget j o ho
   obtain ⟨H2, h2⟩ := Qm (r5 σ hσ)
   refine ⟨H2, h2, ?_⟩
   have heff : p.eff j = false := by
    unfold SP.eff
    rw [hkind j o ho]
    cases hb : Nat.ble 2 (Br P o) with
    | false => rfl
    | true => have := Nat.le_of_ble_eq_true hb; omega
   show D7 P W0 G ops o ⟨D5 l vs s.env j, H2, s.n⟩ fun v' H' => v' = (vs[j]?).getD .nilIf ∧ H' = H2
   rw [a3]
   by_cases hk0 : p.kind.getD j 0 = 0
   · obtain ⟨H0, h0⟩ := a6 heff
     exact Jq (by rw [← hkind j o ho]; exact hk0) h0
   · exact a7 heff hk0 σ hσ H2 h2 hmay
 · intro σ hσ j hj
   rcases r6 σ (r5 σ hσ) with ⟨c1, c2⟩ | c | ⟨k, a, v, H2, H3, c1, c2, c3, c4, c5, c6⟩
   · rcases Gf.1 c1 with c | c
     · exact absurd c c2
     · cases c
   · rw [c] at hj; cases hj
   · rw [c3, Nat.zero_add, List.mem_singleton] at hj
     subst hj
     rw [Nat.zero_add] at c5
     have hjlt : j < ops.size := by rw [← hsz]; exact (List.getElem?_eq_some_iff.1 c1).1
     have ho : ops[j]? = some ops[j] := Array.getElem?_eq_getElem hjlt
     obtain ⟨a', v', a1, a2, a3, _⟩ := hget j _ ho
     rw [c1] at a1; injection a1 with a1; subst a1
     refine ⟨ops[j], _, H2, H3, ho, htr j hjlt, c4, ?_, c5⟩
     show D7 P W0 G ops ops[j] ⟨D5 l vs s.env j, H2, s.n⟩ fun v' H' => v' = (vs[j]?).getD .nilIf ∧ H' = H3
     rw [c2]
     exact Fp a2 c6
theorem ExM.drawC (hg : Gr P W0 G) {m : Nat} {l : List AOper} {p : SP} {s : St} {K : Am → St → Prop} (h : C0 P W0 G p l 0 0 [(0, s.H)] [] s (K .normal)) : ExM P W0 m (.drawC l p) s K := ExM.of fun c hc => by
 obtain ⟨id, ops, rfl, h1, h2⟩ := Wj hc
 exact Go.Abs.drawC hg.mixed hg.g h1 h2 h
variable {l : List (Nat × AVal)} {H H' : Hz} {n j σ : Nat} {M : HMap} {pd : List Pd} {K : St → Prop} {r : List AOper}
theorem A1c (h : (Nat.beq σ p.fin && nEq (p.steps σ) [] && p.states.all fun x => Di x M) = true) (k : K ⟨.al l, H, n⟩) : C0 P W0 G p [] j σ M pd ⟨.al l, H, n⟩ K := ⟨h, k⟩
theorem Dl {d : Nat} {op : AOp} {v : AVal} {side : List (Int × Int)} (h : aop G ⟨.al l, H, n⟩ op = some (.val v H side)) (hd : (Nat.blt d n && Nat.blt d 4094) = true) (hs : Af side)
 (he : (!(p.eff j) && (Nat.beq (p.kind.getD j 0) 0 || (M.all fun x => Nat.beq x.1 σ || !(p.mayB x.1 j)))) = true)
 (k : C0 P W0 G p r (j + 1) σ M (cond (Nat.beq (p.kind.getD j 0) 0 || !(p.states.any fun x => !(Di x M) && p.mayB x j)) pd (⟨j, ⟨some d, none, op⟩, .al l, v⟩ :: pd)) ⟨.al ((d, v) :: l), H, n⟩ K) :
 C0 P W0 G p (⟨some d, none, op⟩ :: r) j σ M pd ⟨.al l, H, n⟩ K := by
 simp only [bAt, Bool.not_eq_true', Bool.or_eq_true] at he
 unfold C0
 simp only [B5, h]
 refine ⟨hs, hd, ?_⟩
 rw [he.1, cond_false]
 refine ⟨rfl, ?_, k⟩
 cases hk : Nat.beq (p.kind.getD j 0) 0 with
 | true => trivial
 | false =>
   rcases he.2 with h0 | h0
   · rw [hk] at h0; cases h0
   · rw [cond_false]
     clear k h he
     induction M with
     | nil => trivial
     | cons x M ih =>
       simp only [List.all_cons, bAt] at h0
       refine ⟨?_, ih h0.2⟩
       have h1 : (Nat.beq x.1 σ || !(p.mayB x.1 j)) = true := h0.1
       show cond (Nat.beq x.1 σ || !(p.mayB x.1 j)) True _
       rw [h1]
       trivial
theorem cEff {d : Option Nat} {op : AOp} {v : AVal} (h : B5 P W0 G ⟨d, none, op⟩ ⟨.al l, H, n⟩ fun v' X => v' = v ∧ X = H') (hd : Et d n = true) (he : (p.eff j && (nEq (p.steps σ) [j] && !(Di (SP.nxt σ j) M))) = true) (hp : Ip P W0 G p (SP.nxt σ j) H' n pd)
 (k : C0 P W0 G p r (j + 1) (SP.nxt σ j) ((SP.nxt σ j, H') :: M) pd ⟨Fa d v (.al l), H', n⟩ K) : C0 P W0 G p (⟨d, none, op⟩ :: r) j σ M pd ⟨.al l, H, n⟩ K := by
 simp only [bAt] at he
 unfold C0
 have : ∀ {Q : AVal → Hz → Prop}, Q v H' → B5 P W0 G ⟨d, none, op⟩ ⟨.al l, H, n⟩ Q := fun {Q} hQ => by
  simp only [B5] at h ⊢
  unfold H7 at h ⊢
  split at h
  · obtain ⟨h1, rfl, rfl⟩ := h; exact ⟨h1, hQ⟩
  · obtain ⟨rfl, rfl⟩ := h; exact hQ
  · obtain ⟨a, b, h1, rfl, rfl⟩ := h; exact ⟨_, _, h1, hQ⟩
  · exact h.elim
 refine this ⟨hd, ?_⟩
 rw [he.1, cond_true]
 refine ⟨?_, hp, k⟩
 simp only [bAt]
 exact he.2
theorem cEVal {d : Nat} {op : AOp} {v : AVal} {side : List (Int × Int)} (h : aop G ⟨.al l, H, n⟩ op = some (.val v H' side)) (hd : (Nat.blt d n && Nat.blt d 4094) = true) (hs : Af side) (he : (p.eff j && (nEq (p.steps σ) [j] && !(Di (SP.nxt σ j) M))) = true) (hp : Ip P W0 G p (SP.nxt σ j) H' n pd)
 (k : C0 P W0 G p r (j + 1) (SP.nxt σ j) ((SP.nxt σ j, H') :: M) pd ⟨.al ((d, v) :: l), H', n⟩ K) : C0 P W0 G p (⟨some d, none, op⟩ :: r) j σ M pd ⟨.al l, H, n⟩ K :=
 cEff (v := v) (by simp only [B5, h]; exact ⟨hs, rfl, rfl⟩) hd he hp k
theorem L0 {d : Nat} {op : AOp} {f : Nat} {args : List AVal} {v : AVal} (h : aop G ⟨.al l, H, n⟩ op = some (.call f args)) (hd : (Nat.blt d n && Nat.blt d 4094) = true) (hc : A1 P W0 f args H v H') (he : (p.eff j && (nEq (p.steps σ) [j] && !(Di (SP.nxt σ j) M))) = true) (hp : Ip P W0 G p (SP.nxt σ j) H' n pd)
 (k : C0 P W0 G p r (j + 1) (SP.nxt σ j) ((SP.nxt σ j, H') :: M) pd ⟨.al ((d, v) :: l), H', n⟩ K) : C0 P W0 G p (⟨some d, none, op⟩ :: r) j σ M pd ⟨.al l, H, n⟩ K :=
 cEff (v := v) (by simp only [B5, h]; exact ⟨v, H', hc, rfl, rfl⟩) hd he hp k
theorem Ls {op : AOp} (h : aop G ⟨.al l, H, n⟩ op = some (.skip H')) (he : (p.eff j && (nEq (p.steps σ) [j] && !(Di (SP.nxt σ j) M))) = true) (hp : Ip P W0 G p (SP.nxt σ j) H' n pd)
 (k : C0 P W0 G p r (j + 1) (SP.nxt σ j) ((SP.nxt σ j, H') :: M) pd ⟨.al l, H', n⟩ K) : C0 P W0 G p (⟨none, none, op⟩ :: r) j σ M pd ⟨.al l, H, n⟩ K :=
 cEff (d := none) (v := .tup []) (by simp only [B5, h]; exact ⟨rfl, rfl⟩) rfl he hp k
theorem zSkip {op : AOp} (h : aop G ⟨.al l, H, n⟩ op = some (.skip H')) (k : K ⟨.al l, H', n⟩) : U5 P W0 G (some ⟨none, none, op⟩) ⟨.al l, H, n⟩ K := by
 simp only [U5, B5, h]
 exact ⟨rfl, k⟩
theorem J0 {d : Nat} {op : AOp} {v : AVal} {side : List (Int × Int)} (h : aop G ⟨.al l, H, n⟩ op = some (.val v H side)) (hd : (Nat.blt d n && Nat.blt d 4094) = true) (hs : Af side)
 (he : (!(p.eff j) && !(Nat.beq (p.kind.getD j 0) 0)) = true) (hp : M3 P W0 G p σ ⟨j, ⟨some d, none, op⟩, .al l, v⟩ n M)
 (k : C0 P W0 G p r (j + 1) σ M (cond (Nat.beq (p.kind.getD j 0) 0 || !(p.states.any fun x => !(Di x M) && p.mayB x j)) pd (⟨j, ⟨some d, none, op⟩, .al l, v⟩ :: pd)) ⟨.al ((d, v) :: l), H, n⟩ K) :
 C0 P W0 G p (⟨some d, none, op⟩ :: r) j σ M pd ⟨.al l, H, n⟩ K := by
 simp only [bAt, Bool.not_eq_true'] at he
 unfold C0
 simp only [B5, h]
 refine ⟨hs, hd, ?_⟩
 rw [he.1, cond_false]
 refine ⟨rfl, ?_, k⟩
 rw [he.2, cond_false]
 exact hp
theorem pdN : Ip P W0 G p σ H n [] := trivial
theorem pdC {q : Pd} (h : cond (p.mayB σ q.j) (Ku P W0 G q H n) True) (k : Ip P W0 G p σ H n pd) : Ip P W0 G p σ H n (q :: pd) := ⟨h, k⟩
theorem ptN {q : Pd} : M3 P W0 G p σ q n [] := trivial
theorem ptC {q : Pd} {x : Nat × Hz} (h : cond (Nat.beq x.1 σ || !(p.mayB x.1 q.j)) True (Ku P W0 G q x.2 n)) (k : M3 P W0 G p σ q n M) : M3 P W0 G p σ q n (x :: M) := ⟨h, k⟩
theorem evY {j d : Nat} {op : AOp} {e : Env} {v : AVal} {side : List (Int × Int)} (h : aop G ⟨e, H, n⟩ op = some (.val v H side)) (hs : Af side) : Ku P W0 G ⟨j, ⟨some d, none, op⟩, e, v⟩ H n := by
 simp only [Ku, B5, h]
 exact ⟨hs, rfl, rfl⟩
theorem cY {b : Bool} {A : Prop} (h : b = true) (k : A) : cond b A True := by subst h; exact k
theorem cN {b : Bool} {A : Prop} (h : b = false) : cond b A True := by subst h; trivial
theorem cYp {b : Bool} {A : Prop} (h : b = false) (k : A) : cond b True A := by subst h; exact k
theorem cNp {b : Bool} {A : Prop} (h : b = true) : cond b True A := by subst h; trivial
end
def Gy (P : Program) (W0 : World) (f : FuncId) (args : List AVal) (H : Hz) (Q : AVal → Hz → Prop) : Prop :=
 E1 P f ∧ ∀ (F : Nat → Prop) (bs : List Nat) (w : World) (cargs : List Value), A7 W0 F bs H w → A5 F bs H w args cargs →
  Calls P f cargs.toArray w fun e w' => ∃ v H' cv bs', Q v H' ∧ e = .returned cv ∧ Rep F bs' H' w' v cv ∧ A7 W0 F bs' H' w' ∧ Ext bs H w bs' H' w'
section
variable {P : Program} {W0 : World} {G : List (Nat × AVal)}
theorem Gy.mono {f : FuncId} {args : List AVal} {H : Hz} {Q Q' : AVal → Hz → Prop} (h : Gy P W0 f args H Q) (hq : ∀ v X, Q v X → Q' v X) : Gy P W0 f args H Q' :=
 ⟨h.1, fun F bs w cargs hh hr => Calls.mono (h.2 F bs w cargs hh hr) fun _ _ ⟨v, X, cv, bs', k1, k2⟩ => ⟨v, X, cv, bs', hq v X k1, k2⟩⟩
theorem Aj.ofQ {f : FuncId} {args : List AVal} {Q : AVal → Prop} (h : Gy P W0 f args [] (fun v X => Q v ∧ X = [])) : Aj P W0 f args Q := by
 refine ⟨h.1, fun F w cargs hh hr => Calls.mono (h.2 F [] w cargs hh hr) fun e w' he => ?_⟩
 obtain ⟨v, X, cv, bs', ⟨k1, rfl⟩, rfl, h1, h2, h3⟩ := he
 have hb : bs' = [] := List.length_eq_zero_iff.1 (by simpa using h2.len)
 subst hb
 exact ⟨v, cv, k1, rfl, h1, h2, h3⟩
theorem Gy.of_fnM {f : Nat} {x : AFn} (hf : Ab P f = some x) {args : List AVal} {H : Hz} {Q : AVal → Hz → Prop} (hl : args.length ≤ 4094) {n : Nat} (hn : args.length + (x.n - args.length) = n)
 (h : ExM P W0 H.length x.code ⟨.al (Fh 0 args), H, n⟩ fun e s => ∃ v H', Q v H' ∧ Lp x.res H.length v H' e s) : Gy P W0 f args H Q := by
 obtain ⟨fn, c, h1, h2, h3, h4, h5, h6⟩ := Ib hf
 refine ⟨⟨fn, c, h1, h2, h5⟩, fun F bs w cargs hh hr => ?_⟩
 have hrs := Ez hh hr hl fn.ntmps
 have hrs' : RS W0 F bs ⟨.al (Fh 0 args), H, n⟩ { tmps := cargs.toArray ++ Array.replicate (fn.ntmps - cargs.toArray.size) undef, defers := [] } w :=
  ⟨hrs.heap, by rw [hrs.size, ← hn, h6], fun t u hu => hrs.env t u (by
   rw [D9 args 0 .leaf t (by omega)]
   have hu : lk t (Fh 0 args) = some u := hu
   rw [Ih] at hu
   by_cases hc : 0 ≤ t ∧ t < 0 + args.length
   · rw [if_pos hc] at hu ⊢; exact hu
   · rw [if_neg hc] at hu; cases hu)⟩
 refine calls_of_wp h1 h2 (h c h3 F bs _ w hrs' bs H w rfl (Ext.refl _ _ _) _ fun e s' bs' a' w' hk hrs hext hd => ?_)
 obtain ⟨v, H', hQ, hne, vs, hvs, hlv⟩ := hk
 obtain ⟨cv, r1, r2⟩ := Eh hrs (J8 h4 hvs)
 obtain ⟨bs'', r3, r4, r5⟩ := Lc hrs.heap hext r2 hlv
 have fin : bodyPost P fn (fun e w' => ∃ v H' cv bs', Q v H' ∧ e = .returned cv ∧ Rep F bs' H' w' v cv ∧ A7 W0 F bs' H' w' ∧ Ext bs H w bs' H' w') .ret a' w' := ⟨hd, cv, r1, v, H', cv, bs'', hQ, rfl, r3, r4, r5⟩
 cases e with
 | normal => exact fin
 | ret => exact fin
 | exit id => exact hne.elim
variable {m : Nat} {l : List (Nat × AVal)} {H H' : Hz} {n : Nat} {K : St → Prop} {r : List AOper}
theorem Y3 {ops : Array Oper} {i : Nat} {d : Option Nat} {g : Option (Nat × Bool)} {op : AOp} {r : List AOper} (hco : Aw P ops (ops.toList.drop i) = some (⟨d, g, op⟩ :: r)) (hgd : Gok g l) :
 ∃ x, ops[i]? = some x ∧ x.dst = d ∧ Ah P x.op = some op ∧ Bq ops ⟨.al l, H, n⟩ x.guard = some true ∧ Aw P ops (ops.toList.drop (i + 1)) = some r := by
 obtain ⟨x, xs, hdr, hx, hxs⟩ := Du hco
 have hi : ops[i]? = some x := by
  have h0 := congrArg (fun l => l[0]?) hdr
  simp only [List.getElem?_drop, Nat.add_zero, List.getElem?_cons_zero, Array.getElem?_toList] at h0
  exact h0
 have hr : ops.toList.drop (i + 1) = xs := by
  have := congrArg (List.drop 1) hdr
  simpa [List.drop_drop] using this
 have hdst : x.dst = d := (Df hx).symm
 have hop : ∃ o', Ah P x.op = some o' ∧ o' = op := by
  unfold B6 at hx
  cases hgx : By ops x.guard with
  | none => rw [hgx] at hx; cases hx
  | some gx =>
    rw [hgx] at hx
    simp only at hx
    cases hop : Ah P x.op with
    | none => rw [hop] at hx; cases hx
    | some o' =>
      rw [hop] at hx
      injection hx with hx
      injection hx with _ _ hx
      exact ⟨o', rfl, hx⟩
 obtain ⟨o', ho', rfl⟩ := hop
 refine ⟨x, hi, hdst, ho', ?_, by rw [hr]; exact hxs⟩
 unfold B6 at hx
 cases hgx : By ops x.guard with
 | none => rw [hgx] at hx; cases hx
 | some gx =>
   rw [hgx] at hx
   simp only [ho'] at hx
   injection hx with hx
   injection hx with _ hx _
   subst hx
   cases hxg : x.guard with
   | none => rfl
   | some gw =>
     obtain ⟨j, want⟩ := gw
     rw [hxg] at hgx
     simp only [By] at hgx
     cases hd' : (ops[j]?).bind (·.dst) with
     | none => rw [hd'] at hgx; cases hgx
     | some d' =>
       rw [hd'] at hgx
       simp only [iS] at hgx
       subst hgx
       have hl : (Env.al l).get d' = some (.bool want) := hgd
       simp only [Bq, hd', hl]
       cases want <;> rfl
theorem Iq (hg : Gr P W0 G) {g : Option (Nat × Bool)} (hgd : Gok g l) {d : Nat} {op : AOp} {f : Nat} {args : List AVal} {Q : AVal → Hz → Prop} (h : aop G ⟨.al l, H, n⟩ op = some (.call f args)) (hd : (Nat.blt d n && Nat.blt d 4094) = true) (hc : Gy P W0 f args H Q)
 (k : ∀ v X, Q v X → Ak P W0 G m r ⟨.al ((d, v) :: l), X, n⟩ K) : Ak P W0 G m (⟨some d, g, op⟩ :: r) ⟨.al l, H, n⟩ K := fun ops i hco F bs a w hs bs0 H0 w0 hm he Q0 hq0 => by
 obtain ⟨x, hi, hdst, ho', hg', hxs⟩ := Y3 (H := H) (n := n) hco hgd
 simp only [lCo, List.range'_succ, wpOps, hi]
 rw [O2 hs hg']
 simp only [if_true]
 refine .inl ?_
 have hok := V2 (P := P) hg.g hs ho' h
 obtain ⟨cargs, h1, h2⟩ := hok hc.1
 unfold Oper.wp
 rw [h1, Oper.upon_enter]
 refine Calls.mono (hc.2 F bs w cargs hs.heap h2) fun e w' he' => ?_
 obtain ⟨v, X, cv, bs', k1, rfl, k3, k4, k5⟩ := he'
 obtain ⟨s', hK, hrs, hH⟩ := hs.put (dst := x.dst) (K := fun s' => s' = ⟨.al ((d, v) :: l), X, n⟩) k3 k4 k5 (by rw [hdst]; exact ⟨hd, rfl⟩)
 subst hK
 have hput : ∀ (dst : Option Tmp) (v : Value), (a.put dst v).defers = a.defers := fun dst v => by cases dst <;> rfl
 exact k v X k1 ops (i + 1) hxs F bs' _ w' hrs bs0 H0 w0 hm (he.trans k5) Q0 fun s2 bs2 a2 w2 e1 e2 e3 e4 => hq0 s2 bs2 a2 w2 e1 e2 e3 (e4.trans (hput _ _))
theorem ExM.loopJ {c : ACode} {σ τ : Type} (st : σ → St) (I : σ → Prop) (μ : σ → Nat) (i : σ) (id : Nat) (po : τ → St) (J : τ → Prop) {s : St} {K : Am → St → Prop} (h0 : Sm (st i) s) (hI : I i)
 (round : ∀ i, I i → ExM P W0 m c (st i) fun e s' => e.then s' (fun s' => ∃ j, I j ∧ μ j < μ i ∧ Sm (st j) s') (fun e s' => (e = .exit id ∧ ∃ j, J j ∧ Sm (po j) s') ∨ K e s'))
 (rest : ∀ j s', J j → Sm (po j) s' → K (.exit id) s') : ExM P W0 m (.loop c) s K := by
 refine ExM.loopS st I μ i h0 hI fun i hi => (round i hi).mono fun e s' h => ?_
 cases e with
 | normal => exact h
 | exit k =>
   rcases h with ⟨he, j, hj, hs⟩ | h
   · injection he with he; subst he; exact rest j s' hj hs
   · exact h
 | ret =>
   rcases h with ⟨he, _⟩ | h
   · cases he
   · exact h
theorem ExM.seqJ {x y : ACode} {τ : Type} (po : τ → St) (J : τ → Prop) {s : St} {K : Am → St → Prop}
 (h : ExM P W0 m x s fun e s' => e.then s' (fun s' => ∃ j, J j ∧ Sm (po j) s') K) (rest : ∀ j, J j → ExM P W0 m y (po j) K) : ExM P W0 m (.seq x y) s K := by
 refine ExM.seq (h.mono fun e s' h => ?_)
 cases e with
 | normal => obtain ⟨j, hj, hs⟩ := h; exact (rest j hj).sub hs
 | exit k => exact h
 | ret => exact h
end
end Go.Abs
namespace Go.Abs
open Go.RowKit
variable {H : Hz} {n : Nat}
mutual
theorem Or : ∀ (v : AVal), blw 0 v = true → ∃ k, ∀ m, k ≤ m → frz H n m v = some v
 | .agg cs, h => by
   obtain ⟨k, hk⟩ := Ig cs h
   exact ⟨k + 1, fun m hm => by cases m with | zero => omega | succ m => simp only [frz, hk m (by omega)]⟩
 | .tup cs, h => by
   obtain ⟨k, hk⟩ := Ig cs h
   exact ⟨k + 1, fun m hm => by cases m with | zero => omega | succ m => simp only [frz, hk m (by omega)]⟩
 | .row _ cs, h => by
   obtain ⟨k, hk⟩ := Ig cs h
   exact ⟨k + 1, fun m hm => by cases m with | zero => omega | succ m => simp only [frz, hk m (by omega)]⟩
 | .hsl _ id _ _ _, h => by simp [blw, Nat.blt] at h
 | .ptr id _, h => by simp [blw, Nat.blt] at h
 | .mref id, h => by simp [blw, Nat.blt] at h
 | .optr id _ _, h => by simp [blw, Nat.blt] at h
 | .eptr e _, h => by
   obtain ⟨k, hk⟩ := Or e h
   exact ⟨k + 1, fun m hm => by cases m with | zero => omega | succ m => simp only [frz, hk m (by omega)]⟩
 | .fn _ a c, h => by
   simp only [blw] at h
   cases ha : A8 0 a with
   | false => rw [ha] at h; cases h
   | true =>
     rw [ha] at h
     obtain ⟨k, hk⟩ := Ig a ha
     obtain ⟨j, hj⟩ := Ig c h
     exact ⟨k + j + 1, fun m hm => by cases m with | zero => omega | succ m => simp only [frz, hk m (by omega), hj m (by omega)]⟩
 | .iface _ x, h => by
   obtain ⟨k, hk⟩ := Or x h
   exact ⟨k + 1, fun m hm => by cases m with | zero => omega | succ m => simp only [frz, hk m (by omega)]⟩
 | .bool _, _ | .int _ _, _ | .str _, _ | .nilSl, _ | .emp, _ | .nilPtr, _ | .nilFn, _ | .nilMp, _ | .nilIf, _ => ⟨1, fun m hm => by cases m with | zero => omega | succ m => rfl⟩
theorem Ig : ∀ (l : List AVal), A8 0 l = true → ∃ k, ∀ m, k ≤ m → H6 H n m l = some l
 | [], _ => ⟨1, fun m hm => by cases m with | zero => omega | succ m => rfl⟩
 | v :: r, h => by
   simp only [A8] at h
   cases hv : blw 0 v with
   | false => rw [hv] at h; cases h
   | true =>
     rw [hv] at h
     obtain ⟨k, hk⟩ := Or v hv
     obtain ⟨j, hj⟩ := Ig r h
     exact ⟨k + j + 1, fun m hm => by cases m with | zero => omega | succ m => simp only [H6, hk m (by omega), hj m (by omega)]⟩
end
theorem Ir {v : AVal} (h : blw 0 v = true) : FzV H n v v := by
 obtain ⟨k, hk⟩ := Or (H := H) (n := n) v h
 exact .inl ⟨k, hk k (Nat.le_refl _)⟩
mutual
theorem V8 {i : Nat} : ∀ (v : AVal), blw 0 v = true → noId i v = true
 | .agg cs, h => Fo cs h
 | .tup cs, h => Fo cs h
 | .row _ cs, h => Fo cs h
 | .hsl _ id _ _ _, h => by simp [blw, Nat.blt] at h
 | .ptr id _, h => by simp [blw, Nat.blt] at h
 | .mref id, h => by simp [blw, Nat.blt] at h
 | .optr id _ _, h => by simp [blw, Nat.blt] at h
 | .eptr e _, h => V8 e h
 | .fn _ a c, h => by
   simp only [blw] at h
   cases ha : A8 0 a with
   | false => rw [ha] at h; cases h
   | true => rw [ha] at h; simp only [noId, Fo a ha, cond_true]; exact Fo c h
 | .iface _ x, h => V8 x h
 | .bool _, _ | .int _ _, _ | .str _, _ | .nilSl, _ | .emp, _ | .nilPtr, _ | .nilFn, _ | .nilMp, _ | .nilIf, _ => rfl
theorem Fo {i : Nat} : ∀ (l : List AVal), A8 0 l = true → Hq i l = true
 | [], _ => rfl
 | v :: r, h => by
   simp only [A8] at h
   cases hv : blw 0 v with
   | false => rw [hv] at h; cases h
   | true => rw [hv] at h; simp only [Hq, V8 v hv, cond_true]; exact Fo r h
end
end Go.Abs
namespace Go.Abs
open Go.RowKit
def pch (v : Value) : List PanicEntry := [{ v, recovered := false }]
def K5 (P : Program) (W0 : World) (f : FuncId) (args : List AVal) (H : Hz) (v : AVal) (H' : Hz) : Prop :=
 E1 P f ∧ ∀ (F : Nat → Prop) (bs : List Nat) (w : World) (cargs : List Value), A7 W0 F bs H w → A5 F bs H w args cargs →
  Calls P f cargs.toArray w fun e w' => ∃ cv bs', e = .panicked (pch cv) ∧ Rep F bs' H' w' v cv ∧ A7 W0 F bs' H' w' ∧ Ext bs H w bs' H' w'
def ExP (P : Program) (W0 : World) (m : Nat) (a : ACode) (s : St) (v : AVal) (K : St → Prop) : Prop :=
 ∀ c, Bc P c = some a → ∀ (F : Nat → Prop) (bs : List Nat) (x : Act) (w : World), RS W0 F bs s x w → ∀ (bs0 : List Nat) (H0 : Hz) (w0 : World), H0.length = m → Ext bs0 H0 w0 bs s.H w → ∀ Q : Exit → Act → World → Prop,
  (∀ cv s' bs' a' w', K s' → RS W0 F bs' s' a' w' → Rep F bs' s'.H w' v cv → Ext bs0 H0 w0 bs' s'.H w' → a'.defers = x.defers → Q (.panic (pch cv)) a' w') → c.wp P Q x w
section
variable {P : Program} {W0 : World} {G : List (Nat × AVal)} {m : Nat} {v : AVal} {K : St → Prop}
theorem ExP.seqL {x y : ACode} {s : St} (h : ExP P W0 m x s v K) : ExP P W0 m (.seq x y) s v K := fun c hc => by
 obtain ⟨a, b, rfl, ha, hb⟩ := L5 hc
 intro F bs x w hs bs0 H0 w0 hm he Q hq
 exact wp_seq (h a ha F bs x w hs bs0 H0 w0 hm he _ fun cv s' bs' a' w' h1 h2 h3 h4 h5 => hq cv s' bs' a' w' h1 h2 h3 h4 h5)
theorem ExP.seqR {x y : ACode} {s : St} (h : ExM P W0 m x s fun e s' => e = .normal ∧ ExP P W0 m y s' v K) : ExP P W0 m (.seq x y) s v K := fun c hc => by
 obtain ⟨a, b, rfl, ha, hb⟩ := L5 hc
 intro F bs x w hs bs0 H0 w0 hm he Q hq
 refine wp_seq (h a ha F bs x w hs bs0 H0 w0 hm he _ fun e s' bs' a' w' hk hrs hext hd => ?_)
 obtain ⟨rfl, hk⟩ := hk
 exact hk b hb F bs' a' w' hrs bs0 H0 w0 hm hext Q fun cv s2 bs2 a2 w2 h1 h2 h3 h4 h5 => hq cv s2 bs2 a2 w2 h1 h2 h3 h4 (h5.trans hd)
theorem ExP.condT (hg : Gr P W0 G) {s : St} {c : AOpd} {x y : ACode} (hv : ev G s c = some (.bool true)) (ht : ExP P W0 m x s v K) : ExP P W0 m (.cond c x y) s v K := fun k hk => by
 obtain ⟨p, a, d, rfl, hp, ha, hd⟩ := Jl hk
 intro F bs x w hs bs0 H0 w0 hm he Q hq
 exact wp_cond_split (t := true) (by have := Az hg.g hs hp hv; simpa only [Rep] using this) (fun _ => ht a ha F bs x w hs bs0 H0 w0 hm he Q hq) (fun h => by cases h)
theorem ExP.condF (hg : Gr P W0 G) {s : St} {c : AOpd} {x y : ACode} (hv : ev G s c = some (.bool false)) (ht : ExP P W0 m y s v K) : ExP P W0 m (.cond c x y) s v K := fun k hk => by
 obtain ⟨p, a, d, rfl, hp, ha, hd⟩ := Jl hk
 intro F bs x w hs bs0 H0 w0 hm he Q hq
 exact wp_cond_split (t := false) (by have := Az hg.g hs hp hv; simpa only [Rep] using this) (fun h => by cases h) (fun _ => ht d hd F bs x w hs bs0 H0 w0 hm he Q hq)
theorem ExP.block {s : St} {id : Nat} {x : ACode} (h : ExP P W0 m x s v K) : ExP P W0 m (.block id x) s v K := fun c hc => by
 obtain ⟨a, rfl, ha⟩ := K8 hc
 intro F bs x w hs bs0 H0 w0 hm he Q hq
 exact wp_block (h a ha F bs x w hs bs0 H0 w0 hm he _ fun cv s' bs' a' w' h1 h2 h3 h4 h5 => hq cv s' bs' a' w' h1 h2 h3 h4 h5)
def ExPR (P : Program) (W0 : World) (m : Nat) (c : ACode) (v : AVal) (K : St → Prop) : Nat → St → Prop
 | 0, _ => False
 | n + 1, s => ExP P W0 m c s v K ∨ ExM P W0 m c s fun e s' => e = .normal ∧ ExPR P W0 m c v K n s'
theorem ExP.loop {c : ACode} (n : Nat) {s : St} (h : ExPR P W0 m c v K n s) : ExP P W0 m (.loop c) s v K := fun k hk => by
 obtain ⟨k', rfl, hk'⟩ := Jm hk
 intro F bs a w hs bs0 H0 w0 hm he Q hq
 refine Gp (σ := Nat) (fun i a' w' => ∃ s' bs', ExPR P W0 m c v K i s' ∧ RS W0 F bs' s' a' w' ∧ Ext bs0 H0 w0 bs' s'.H w' ∧ a'.defers = a.defers) id (s := n) ⟨s, bs, h, hs, he, rfl⟩ ?_
 rintro i a1 w1 ⟨s1, bs1, hi, hrs1, hext1, hd1⟩
 cases i with
 | zero => exact hi.elim
 | succ i =>
   rcases hi with hi | hi
   · exact hi k' hk' F bs1 a1 w1 hrs1 bs0 H0 w0 hm hext1 _ fun cv s' bs' a' w' h1 h2 h3 h4 h5 => hq cv s' bs' a' w' h1 h2 h3 h4 (h5.trans hd1)
   · refine hi k' hk' F bs1 a1 w1 hrs1 bs0 H0 w0 hm hext1 _ fun e s' bs' a' w' hkk hrs hext hd => ?_
     obtain ⟨rfl, hkk⟩ := hkk
     exact ⟨i, ⟨s', bs', hkk, hrs, hext, hd.trans hd1⟩, Nat.lt_succ_self i⟩
def N4 (P : Program) (W0 : World) (m : Nat) (l : List AOper) (s : St) (v : AVal) (K : St → Prop) : Prop :=
 ∀ (ops : Array Oper) (i : Nat), Aw P ops (ops.toList.drop i) = some l → ∀ (F : Nat → Prop) (bs : List Nat) (a : Act) (w : World), RS W0 F bs s a w → ∀ (bs0 : List Nat) (H0 : Hz) (w0 : World), H0.length = m → Ext bs0 H0 w0 bs s.H w → ∀ Q : Exit → Act → World → Prop,
  (∀ cv s' bs' a' w', K s' → RS W0 F bs' s' a' w' → Rep F bs' s'.H w' v cv → Ext bs0 H0 w0 bs' s'.H w' → a'.defers = a.defers → Q (.panic (pch cv)) a' w') → wpOps P ops Q (List.range' i l.length) a w
theorem pCons (hg : Gr P W0 G) {s : St} {o : AOper} {r : List AOper} (h : Jt P W0 G o s fun s' => N4 P W0 m r s' v K) : N4 P W0 m (o :: r) s v K := fun ops i hc F bs a w hs bs0 H0 w0 hm he Q hq => by
 obtain ⟨x, xs, hd, hx, hxs⟩ := Du hc
 have hi : ops[i]? = some x := by
  have h0 := congrArg (fun l => l[0]?) hd
  simp only [List.getElem?_drop, Nat.add_zero, List.getElem?_cons_zero, Array.getElem?_toList] at h0
  exact h0
 have hr : ops.toList.drop (i + 1) = xs := by
  have := congrArg (List.drop 1) hd
  simpa [List.drop_drop] using this
 have hP := Qc hx h
 simp only [lCo, List.range'_succ, wpOps, hi]
 refine J1 hg.g hs hP fun s' bs' a' w' hk hrs hext hdf => ?_
 exact hk ops (i + 1) (by rw [hr]; exact hxs) F bs' a' w' hrs bs0 H0 w0 hm (he.trans hext) Q fun cv s2 bs2 a2 w2 h1 h2 h3 h4 h5 => hq cv s2 bs2 a2 w2 h1 h2 h3 h4 (h5.trans hdf)
variable {l : List (Nat × AVal)} {H : Hz} {n : Nat} {r : List AOper}
variable {H2 : Hz}
theorem I5 (hg : Gr P W0 G) {g : Option (Nat × Bool)} (hgd : Gok g l) {d : Nat} {op : AOp} {u : AVal} {side : List (Int × Int)} (h : aop G ⟨.al l, H, n⟩ op = some (.val u H2 side)) (hd : (Nat.blt d n && Nat.blt d 4094) = true) (hs : Af side) (k : N4 P W0 m r ⟨.al ((d, u) :: l), H2, n⟩ v K) : N4 P W0 m (⟨some d, g, op⟩ :: r) ⟨.al l, H, n⟩ v K := by
 refine pCons hg (Iy hgd ?_)
 rw [h]
 exact ⟨hs, hd, k⟩
theorem Ud {ops : Array Oper} {x : Oper} {d : Option Nat} {op : AOp} (hx : B6 P ops x = some ⟨d, none, op⟩) : x.dst = d ∧ x.guard = none ∧ Ah P x.op = some op := by
 unfold B6 at hx
 cases hgx : By ops x.guard with
 | none => rw [hgx] at hx; cases hx
 | some gx =>
   rw [hgx] at hx
   simp only at hx
   cases hop : Ah P x.op with
   | none => rw [hop] at hx; cases hx
   | some o' =>
     rw [hop] at hx
     injection hx with hx
     injection hx with h1 h2 h3
     refine ⟨h1, ?_, congrArg some h3⟩
     subst h2
     cases hg : x.guard with
     | none => rfl
     | some gw =>
       rw [hg] at hgx
       obtain ⟨j, want⟩ := gw
       simp only [By] at hgx
       cases hd' : (ops[j]?).bind (·.dst) with
       | none => rw [hd'] at hgx; cases hgx
       | some d' => rw [hd'] at hgx; cases hgx
theorem Zm (hg : Gr P W0 G) {d : Option Nat} {op : AOp} {f : Nat} {args : List AVal} (h : aop G ⟨.al l, H, n⟩ op = some (.call f args)) (hc : K5 P W0 f args H v H2) (hK : K ⟨.al l, H2, n⟩) : N4 P W0 m (⟨d, none, op⟩ :: r) ⟨.al l, H, n⟩ v K := fun ops i hco F bs a w hs bs0 H0 w0 hm he Q hq => by
 obtain ⟨x, xs, hdr, hx, hxs⟩ := Du hco
 have hi : ops[i]? = some x := by
  have h0 := congrArg (fun l => l[0]?) hdr
  simp only [List.getElem?_drop, Nat.add_zero, List.getElem?_cons_zero, Array.getElem?_toList] at h0
  exact h0
 obtain ⟨_, hgd, hop⟩ := Ud hx
 simp only [lCo, List.range'_succ, wpOps, hi]
 have hw : Region.wanted x (yielded ops a.tmps) = true := by simp [Region.wanted, hgd]
 rw [if_pos hw]
 refine .inl ?_
 obtain ⟨cargs, h1, h2⟩ := (V2 (P := P) hg.g hs hop h) hc.1
 unfold Oper.wp
 rw [h1, Oper.upon_enter]
 refine Calls.mono (hc.2 F bs w cargs hs.heap h2) fun e w' he' => ?_
 obtain ⟨cv, bs', rfl, k3, k4, k5⟩ := he'
 exact hq cv ⟨.al l, H2, n⟩ bs' a w' hK ⟨k4, hs.size, fun t u hu => Rep.ext k5 u _ (hs.env t u hu)⟩ k3 (he.trans k5) rfl
theorem pPan (hg : Gr P W0 G) {d : Option Nat} {x : AOpd} {T : TypeId} {u : AVal} (h : ev G ⟨.al l, H, n⟩ x = some (.iface T u)) (hK : K ⟨.al l, H, n⟩) : N4 P W0 m (⟨d, none, .pan x⟩ :: r) ⟨.al l, H, n⟩ (.iface T u) K := fun ops i hco F bs a w hs bs0 H0 w0 hm he Q hq => by
 obtain ⟨o, xs, hdr, hx, hxs⟩ := Du hco
 have hi : ops[i]? = some o := by
  have h0 := congrArg (fun l => l[0]?) hdr
  simp only [List.getElem?_drop, Nat.add_zero, List.getElem?_cons_zero, Array.getElem?_toList] at h0
  exact h0
 obtain ⟨_, hgd, hop⟩ := Ud hx
 simp only [lCo, List.range'_succ, wpOps, hi]
 have hw : Region.wanted o (yielded ops a.tmps) = true := by simp [Region.wanted, hgd]
 rw [if_pos hw]
 refine .inl ?_
 obtain ⟨y, hy, hxy⟩ := Yl hop
 have hr := Az hg.g hs hxy h
 have hr' := hr
 simp only [Rep] at hr'
 obtain ⟨u', hv, _⟩ := hr'
 have hexec : (execOp a.eval o).run P w = .halt (.panic (a.eval y)) w := by
  simp [execOp, hy, hv, Instr.panic, goPanic]
 unfold Oper.wp
 rw [hexec, Oper.upon_panic]
 exact hq _ ⟨.al l, H, n⟩ bs a w hK hs hr he rfl
theorem ExP.ops (_hg : Gr P W0 G) {l : List AOper} {s : St} (h : N4 P W0 m l s v K) : ExP P W0 m (.ops l) s v K := fun c hc => by
 obtain ⟨id, ops, rfl, h1⟩ := Oo hc
 intro F bs a w hs bs0 H0 w0 hm he Q hq
 have hlen := (Ci h1).1
 refine wp_region ?_
 have := h ops 0 (by simpa using h1) F bs a w hs bs0 H0 w0 hm he Q hq
 rw [List.range_eq_range', ← Array.length_toList, ← hlen]
 exact this
theorem K5.of_fn {f : Nat} {x : AFn} (hf : Ab P f = some x) {args : List AVal} {H H' : Hz} (hl : args.length ≤ 4094) {n : Nat} (hn : args.length + (x.n - args.length) = n)
 (h : ExP P W0 H.length x.code ⟨.al (Fh 0 args), H, n⟩ v fun s' => s'.H = H') : K5 P W0 f args H v H' := by
 obtain ⟨fn, c, h1, h2, h3, h4, h5, h6⟩ := Ib hf
 refine ⟨⟨fn, c, h1, h2, h5⟩, fun F bs w cargs hh hr => ?_⟩
 have hrs := Ez hh hr hl fn.ntmps
 have hrs' : RS W0 F bs ⟨.al (Fh 0 args), H, n⟩ { tmps := cargs.toArray ++ Array.replicate (fn.ntmps - cargs.toArray.size) undef, defers := [] } w :=
  ⟨hrs.heap, by rw [hrs.size, ← hn, h6], fun t u hu => hrs.env t u (by
   rw [D9 args 0 .leaf t (by omega)]
   have hu : lk t (Fh 0 args) = some u := hu
   rw [Ih] at hu
   by_cases hc : 0 ≤ t ∧ t < 0 + args.length
   · rw [if_pos hc] at hu ⊢; exact hu
   · rw [if_neg hc] at hu; cases hu)⟩
 refine calls_of_wp h1 h2 (h c h3 F bs _ w hrs' bs H w rfl (Ext.refl _ _ _) _ fun cv s' bs' a' w' k1 k2 k3 k4 k5 => ?_)
 subst k1
 exact ⟨k5, cv, bs', rfl, k3, k2.heap, k4⟩
end
def A0z (P : Program) (W0 : World) (g : FuncId) (caps : List AVal) (v : AVal) (H H2 : Hz) : Prop :=
 ∀ (F : Nat → Prop) (bs : List Nat) (w : World) (cap : List Value) (cv : Value), A7 W0 F bs H w → A5 F bs H w caps cap → Rep F bs H w v cv →
  CallsD P g cap.toArray (.panicking (pch cv)) w fun e u' w' => e = .returned (.tuple #[]) ∧ u' = .panicking [{ v := cv, recovered := true }] ∧ ∃ bs', A7 W0 F bs' H2 w' ∧ Ext bs H w bs' H2 w'
section
variable {P : Program} {W0 : World} {G : List (Nat × AVal)}
theorem A1.of_rec (hg : Gr P W0 G) {f : FuncId} {fn : Func} {r0 r1 rest : Code} {a0 a1 ar : ACode} {id t : Nat} {g : FuncId} {ops : Array Oper} {o0 o1 : Oper} {ao : AOper} (hf : P.funcs[f]? = some fn) (hb : fn.body = some (.seq r0 (.seq r1 (.seq (.region id ops false) rest))))
 (hnm : fn.name ≠ "runtime.NumGoroutine") (hgb : E1 P g) (c0 : Bc P r0 = some a0) (c1 : Bc P r1 = some a1) (cr : Bc P rest = some ar) (co : B6 P ops o0 = some ao)
 (hops : ops = #[o0, o1]) (h1g : o1.guard = none) (h1d : o1.dst = none) (h1c : ∃ c, o1.op = .defer c ∧ c.callee = .value (.tmp t) ∧ c.args = #[])
 {args : List AVal} {H : Hz} {v vo : AVal} {Ho : Hz} (hl : args.length ≤ 4094)
 (h : ExM P W0 H.length a0 ⟨.al (Fh 0 args), H, args.length + (fn.ntmps - args.length)⟩ fun e s0 => e = .normal ∧ ExM P W0 H.length a1 s0 fun e s1 => e = .normal ∧ Jt P W0 G ao s1 fun s2 => ∃ caps, s2.env.get t = some (.fn g [] caps) ∧
  ExP P W0 s2.H.length ar s2 v fun s3 => ∃ H2, A0z P W0 g caps v s3.H H2 ∧ ∃ vs, D3 P ⟨s3.env, H2, s3.n⟩ fn.results.toList = some vs ∧ J4 H.length (Hw vs) H2 = (vo, Ho)) :
 A1 P W0 f args H vo Ho := by
 refine ⟨⟨fn, _, hf, hb, hnm⟩, fun F bs w cargs hh hr => ?_⟩
 refine calls_of_wp_defers hf hb ?_
 have hrs := Ez hh hr hl fn.ntmps
 have hrs' : RS W0 F bs ⟨.al (Fh 0 args), H, args.length + (fn.ntmps - args.length)⟩ { tmps := cargs.toArray ++ Array.replicate (fn.ntmps - cargs.toArray.size) undef, defers := [] } w :=
  ⟨hrs.heap, hrs.size, fun t u hu => hrs.env t u (by
   rw [D9 args 0 .leaf t (by omega)]
   have hu : lk t (Fh 0 args) = some u := hu
   rw [Ih] at hu
   by_cases hc : 0 ≤ t ∧ t < 0 + args.length
   · rw [if_pos hc] at hu ⊢; exact hu
   · rw [if_neg hc] at hu; cases hu)⟩
 refine wp_seq (h r0 c0 F bs _ w hrs' bs H w rfl (Ext.refl _ _ _) _ fun e s0 bs0 a0' w0 hk hrs0 hext0 hd0 => ?_)
 obtain ⟨rfl, hk⟩ := hk
 show (Code.seq r1 _).wp P _ a0' w0
 refine wp_seq (hk r1 c1 F bs0 a0' w0 hrs0 bs H w rfl hext0 _ fun e s1 bs1 a1' w1 hk hrs1 hext1 hd1 => ?_)
 obtain ⟨rfl, hk⟩ := hk
 show (Code.seq _ rest).wp P _ a1' w1
 refine wp_seq ?_
 refine wp_region ?_
 have hP := Qc co hk
 subst hops
 have hrg : List.range (#[o0, o1] : Array Oper).size = [0, 1] := rfl
 rw [hrg]
 simp only [wpOps, List.getElem?_toArray, List.getElem?_cons_zero, List.getElem?_cons_succ]
 refine J1 hg.g hrs1 hP fun s2 bs2 a2 w2 hk hrs2 hext2 hdf => ?_
 obtain ⟨caps, hc, hk⟩ := hk
 have hrep := hrs2.env t _ hc
 simp only [Rep, A5] at hrep
 obtain ⟨fs, cs, hv, rfl, hcs⟩ := hrep
 obtain ⟨cl, hop, hcal, hargs⟩ := h1c
 have hw : Region.wanted o1 (yielded #[o0, o1] a2.tmps) = true := by simp [Region.wanted, h1g]
 rw [if_pos hw]
 refine .inl ?_
 have hexec : (execOp a2.eval o1).run P w2 = .ok (.defer ⟨.fn (.func g) cs.toArray, #[]⟩) w2 := by
  have hev : a2.eval (.tmp t) = .func (.func g) #[] cs.toArray := by
   show a2.tmps.getD t undef = _
   exact hv
  simp [execOp, hop, resolve, hcal, hargs, hev, Deferred.ofValue]
 unfold Oper.wp
 rw [hexec, Oper.upon_defer]
 have hput : ({ a2 with defers := ⟨.fn (.func g) cs.toArray, #[]⟩ :: a2.defers } : Act).put o1.dst undef = { a2 with defers := ⟨.fn (.func g) cs.toArray, #[]⟩ :: a2.defers } := by rw [h1d]; rfl
 rw [hput]
 have hrs2' : RS W0 F bs2 s2 { a2 with defers := ⟨.fn (.func g) cs.toArray, #[]⟩ :: a2.defers } w2 := ⟨hrs2.heap, hrs2.size, hrs2.env⟩
 refine hk rest cr F bs2 _ w2 hrs2' bs2 s2.H w2 rfl (Ext.refl _ _ _) _ fun cv s3 bs3 a3 w3 hk hrs3 hrep3 hext3 hd3 => ?_
 obtain ⟨H2, hrec, vs, hvs, hlv⟩ := hk
 have hcs3 := A5.ext hext3 caps cs hcs
 have hdef : a3.defers = [⟨.fn (.func g) cs.toArray, #[]⟩] := by rw [hd3]; simp only [hdf, hd1, hd0]
 have hinv : (invoke (.fn (.func g) cs.toArray) #[]).run P w3 = .ok (.enter g cs.toArray) w3 := by
  obtain ⟨fg, cg, k1, k2, k3⟩ := hgb
  show (callFunc g (#[] ++ cs.toArray)).run P w3 = _
  simp [callFunc, k1, k2, k3, mark]
 show Leaves P fn a3.tmps _ a3.defers (.panicking (pch cv)) w3
 rw [hdef]
 refine ⟨by simp, .func g, cs.toArray, g, cs.toArray, rfl, hinv, ?_⟩
 refine (hrec F bs3 w3 cs cv hrs3.heap hcs3 hrep3).mono ?_
 rintro e u' w4 ⟨rfl, rfl, bs4, hh4, hext4⟩
 have hrs4 : RS W0 F bs4 ⟨s3.env, H2, s3.n⟩ a3 w4 := ⟨hh4, hrs3.size, fun t u hu => Rep.ext hext4 u _ (hrs3.env t u hu)⟩
 obtain ⟨cv', h1, h2⟩ := Eh hrs4 hvs
 have hextA : Ext bs H w bs4 H2 w4 := ((hext1.trans hext2).trans hext3).trans hext4
 obtain ⟨bs5, h3, h4, h5⟩ := Ns hh4 hextA h2
 rw [hlv] at h3 h4 h5
 exact ⟨cv', h1, cv', bs5, rfl, h3, h4, h5⟩
end
end Go.Abs
