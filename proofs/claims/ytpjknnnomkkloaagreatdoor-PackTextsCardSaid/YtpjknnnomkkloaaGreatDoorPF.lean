/- A part of the proof that tabula/tabulalaw25.PackTexts returns true for every input, each argument reading as it did (its card: the last text). No conditions of its own. -/
import Derived.Test.YtpjknnnomkkloaaGreatDoorPE
import Derived.Lib.ValidU
import Derived.Lib.TrimU
import Derived.Sort.OwnSorted
import Derived.Lib.SlicesCompact
import Derived.Test.YtpjknnnomkkloaaGreatDoorProg
namespace Go.Abs
open Go.RowKit
section
variable {P : Program} {W0 : World} {G : List (Nat × AVal)}
theorem A0z.of2 {g : FuncId} {fn : Func} {id0 t t2 : Nat} {o0 o1 : Oper} {rest : Code} {ar : ACode} (hf : P.funcs[g]? = some fn) (hb : fn.body = some (.seq (.region id0 #[o0, o1] false) rest)) (hgd : o0.guard = none) (hd : o0.dst = some t) (hgd1 : o1.guard = none) (hd1 : o1.dst = some t2)
 (hrec : ∀ (a : Act) (w : World), (execOp a.eval o0).run P w = .ok .recover w) (hmv : ∀ (a : Act) (w : World), (execOp a.eval o1).run P w = .ok (.value (a.eval (.tmp t))) w) (cr : Bc P rest = some ar) (hres : fn.results = #[]) {caps : List AVal} {v : AVal} {H H2 : Hz} (hl : caps.length ≤ 4094) {n : Nat} (hn : caps.length + (fn.ntmps - caps.length) = n) (ht : (Nat.blt t n && Nat.blt t 4094) = true) (ht2 : (Nat.blt t2 n && Nat.blt t2 4094) = true)
 (h : ExM P W0 H.length ar ⟨.al ((t2, v) :: (t, v) :: Fh 0 caps), H, n⟩ fun e s' => (match e with | .exit _ => False | _ => True) ∧ s'.H = H2) : A0z P W0 g caps v H H2 := by
 intro F bs w cap cv hh hcap hcv
 subst hn
 refine callsD_of_wpS hf hb fun c₀ cs hu => ?_
 apply wpS_seq
 apply wpS_region
 have hrg : List.range (#[o0, o1] : Array Oper).size = [0, 1] := rfl
 rw [hrg]
 simp only [wpOpsS, List.getElem?_toArray, List.getElem?_cons_zero, List.getElem?_cons_succ]
 have hw : ∀ x : Array Value, Region.wanted o0 (yielded #[o0, o1] x) = true := fun x => by simp [Region.wanted, hgd]
 have hw1 : ∀ x : Array Value, Region.wanted o1 (yielded #[o0, o1] x) = true := fun x => by simp [Region.wanted, hgd1]
 rw [if_pos (hw _), hrec]
 have hrc : recoverD (c₀ :: cs) = some (cv, { c₀ with mode := .panicking [{ v := cv, recovered := true }] } :: cs) := by
  simp [recoverD, hu, pch]
 simp only [hrc]
 rw [if_pos (hw1 _), hmv]
 have hrs := Ez hh hcap hl fn.ntmps
 have hrs' : RS W0 F bs ⟨.al (Fh 0 caps), H, caps.length + (fn.ntmps - caps.length)⟩ { tmps := cap.toArray ++ Array.replicate (fn.ntmps - cap.toArray.size) undef, defers := [] } w :=
  ⟨hrs.heap, hrs.size, fun t u hu => hrs.env t u (by
   rw [D9 caps 0 .leaf t (by omega)]
   have hu : lk t (Fh 0 caps) = some u := hu
   rw [Ih] at hu
   by_cases hc : 0 ≤ t ∧ t < 0 + caps.length
   · rw [if_pos hc] at hu ⊢; exact hu
   · rw [if_neg hc] at hu; cases hu)⟩
 obtain ⟨s1, hK1, hrs1, hH1⟩ := hrs'.put (dst := o0.dst) (K := fun s' => s' = ⟨.al ((t, v) :: Fh 0 caps), H, caps.length + (fn.ntmps - caps.length)⟩) hcv hh (Ext.refl _ _ _) (by rw [hd]; exact ⟨ht, rfl⟩)
 subst hK1
 have hev : Rep F bs H w v ((({ tmps := cap.toArray ++ Array.replicate (fn.ntmps - cap.toArray.size) undef, defers := [] } : Act).put o0.dst cv).eval (.tmp t)) := hrs1.env t v (by show lk t ((t, v) :: Fh 0 caps) = some v; simp [lk])
 obtain ⟨s', hK, hrs2, hH⟩ := hrs1.put (dst := o1.dst) (K := fun s' => s' = ⟨.al ((t2, v) :: (t, v) :: Fh 0 caps), H, caps.length + (fn.ntmps - caps.length)⟩) hev hh (Ext.refl _ _ _) (by rw [hd1]; exact ⟨ht2, rfl⟩)
 subst hK
 show rest.wpS P _ _ _ _
 refine wpS_of_wp (h rest cr F bs _ w hrs2 bs H w rfl (Ext.refl _ _ _) _ fun e s' bs' a' w' hk hrs hext hdf => ?_)
 obtain ⟨hne, rfl⟩ := hk
 have hput : ∀ (a : Act) (dst : Option Tmp) (v : Value), (a.put dst v).defers = a.defers := fun a dst v => by cases dst <;> rfl
 have hdn : a'.defers = [] := by rw [hdf, hput, hput]
 have fin : ∃ u', ({ c₀ with mode := .panicking [{ v := cv, recovered := true }] } :: cs : List Frame) = { c₀ with mode := u' } :: cs ∧ ∃ r, (results fn a'.tmps).run P w' = .ok r w' ∧ (Ending.returned r = .returned (.tuple #[]) ∧ u' = .panicking [{ v := cv, recovered := true }] ∧ ∃ bs', A7 W0 F bs' s'.H w' ∧ Ext bs H w bs' s'.H w') :=
  ⟨_, rfl, .tuple #[], by simp [results, hres], rfl, rfl, bs', hrs.heap, hext⟩
 cases e with
 | normal => exact ⟨hdn, fin⟩
 | ret => exact ⟨hdn, fin⟩
 | exit id => exact hne.elim
theorem A1.of_rec2 (hg : Gr P W0 G) {f : FuncId} {fn : Func} {r0 r1 rest : Code} {a0 a1 ar : ACode} {id t : Nat} {g : FuncId} {ops : Array Oper} {o0 o1 : Oper} {ao : AOper} (hf : P.funcs[f]? = some fn) (hb : fn.body = some (.seq r0 (.seq r1 (.seq (.region id ops false) rest))))
 (hnm : fn.name ≠ "runtime.NumGoroutine") (hgb : E1 P g) (c0 : Bc P r0 = some a0) (c1 : Bc P r1 = some a1) (cr : Bc P rest = some ar) (co : B6 P ops o0 = some ao)
 (hops : ops = #[o0, o1]) (h1g : o1.guard = none) (h1d : o1.dst = none) (h1c : ∃ c, o1.op = .defer c ∧ c.callee = .value (.tmp t) ∧ c.args = #[])
 {args : List AVal} {H : Hz} {v vo : AVal} {Ho : Hz} (hl : args.length ≤ 4094) {n : Nat} (hn : args.length + (fn.ntmps - args.length) = n) {rl : List ResultVar} (hrl : fn.results.toList = rl)
 (h : ExM P W0 H.length a0 ⟨.al (Fh 0 args), H, n⟩ fun e s0 => e = .normal ∧ ExM P W0 H.length a1 s0 fun e s1 => e = .normal ∧ Jt P W0 G ao s1 fun s2 => ∃ caps, s2.env.get t = some (.fn g [] caps) ∧
  ExP P W0 s2.H.length ar s2 v fun s3 => ∃ H2, A0z P W0 g caps v s3.H H2 ∧ ∃ vs, D3 P ⟨s3.env, H2, s3.n⟩ rl = some vs ∧ J4 H.length (Hw vs) H2 = (vo, Ho)) :
 A1 P W0 f args H vo Ho := by
 subst hn; subst hrl
 exact A1.of_rec hg hf hb hnm hgb c0 c1 cr co hops h1g h1d h1c hl h
end
def only (j0 : Nat) (l : List AOper) : Bool := Nat.blt j0 l.length && (List.range l.length).all fun j => match l[j]? with
 | some a => cond (Nat.beq j j0) (Nat.ble 2 a.op.kind) (Nat.beq a.op.kind 0)
 | none => true
theorem Mc {Q : Nat → Prop} : ∀ {l acc new : List Nat}, (∀ x ∈ l, Q x) → (∀ x ∈ acc, Q x) → (∀ x ∈ new, Q x) → (∀ x ∈ (M6 l acc new).1, Q x) ∧ ∀ x ∈ (M6 l acc new).2, Q x
 | [], acc, new, _, h2, h3 => ⟨h2, h3⟩
 | y :: r, acc, new, h1, h2, h3 => by
   have hy := h1 y (by simp)
   have hr : ∀ x ∈ r, Q x := fun x hx => h1 x (by simp [hx])
   simp only [M6]
   cases Ye y acc with
   | true => exact Mc hr h2 h3
   | false =>
     refine Mc hr (fun x hx => ?_) (fun x hx => ?_)
     · rcases List.mem_append.1 hx with h | h
       · exact h2 x h
       · rw [List.mem_singleton] at h; subst h; exact hy
     · rcases List.mem_append.1 hx with h | h
       · exact h3 x h
       · rw [List.mem_singleton] at h; subst h; exact hy
theorem O1 {Q : Nat → Prop} {p : SP} (hs : ∀ σ, Q σ → ∀ j ∈ p.steps σ, Q (SP.nxt σ j)) : ∀ {f : Nat} {todo acc : List Nat}, (∀ x ∈ todo, Q x) → (∀ x ∈ acc, Q x) → ∀ x ∈ O5 p f todo acc, Q x
 | 0, _, _, _, h2 => h2
 | _ + 1, [], _, _, h2 => h2
 | f + 1, σ :: todo, acc, h1, h2 => by
   have hσ := h1 σ (by simp)
   have hn : ∀ x ∈ (p.steps σ).map (SP.nxt σ), Q x := fun x hx => by
    obtain ⟨j, hj, rfl⟩ := List.mem_map.1 hx
    exact hs σ hσ j hj
   have ha := Mc (Q := Q) hn h2 (new := []) (fun x hx => by simp at hx)
   simp only [O5]
   cases he : M6 ((p.steps σ).map (SP.nxt σ)) acc [] with
   | mk acc' new =>
     rw [he] at ha
     refine O1 hs (fun x hx => ?_) ha.1
     rcases List.mem_append.1 hx with h | h
     · exact h1 x (by simp [h])
     · exact ha.2 x h
section
variable {P : Program} {W0 : World} {G : List (Nat × AVal)}
theorem R0 {masks : List Nat} {j : Nat} : ∀ (l : List Edge) (m : Nat), m < 2 ^ j → (∀ e ∈ l, cond (Region.binds .any e) (Nat.blt e.on j) true = true) → (∀ i, i < j → masks.getD i 0 < 2 ^ i) →
 l.foldl (fun m e => cond (Region.binds .any e) (Nat.lor (Nat.lor m (Nat.shiftLeft 1 e.on)) (masks.getD e.on 0)) m) m < 2 ^ j
 | [], m, hm, _, _ => hm
 | e :: l, m, hm, hl, hi => by
   simp only [List.foldl_cons]
   refine R0 l _ ?_ (fun x hx => hl x (by simp [hx])) hi
   have he := hl e (by simp)
   cases hb : Region.binds .any e with
   | false => exact hm
   | true =>
     rw [hb, cond_true] at he
     have hlt : e.on < j := by simpa [Nat.blt_eq] using he
     rw [cond_true]
     refine Nat.or_lt_two_pow (Nat.or_lt_two_pow hm ?_) ?_
     · show 1 <<< e.on < 2 ^ j
       rw [Nat.one_shiftLeft]
       exact Nat.pow_lt_pow_right (by omega) hlt
     · exact nLl (hi _ hlt) (Nat.pow_le_pow_right (by omega) (by omega))
theorem mask_lt {ops : Array Oper} {p : SP} (hsp : H8 P ops p = true) : ∀ j, j < ops.size → p.mask.getD j 0 < 2 ^ j := by
 intro j
 induction j using Nat.strongRecOn with
 | _ j ih =>
   intro hj
   have h0 := hsp
   simp only [H8, bAt] at h0
   have := List.all_eq_true.1 h0.2 j (List.mem_range.2 hj)
   rw [Array.getElem?_eq_getElem hj] at this
   simp only [Q7, bAt] at this
   rw [nBq this.1.1.2]
   unfold M9
   exact R0 _ 0 (Nat.two_pow_pos j) (fun e he => List.all_eq_true.1 this.1.1.1 e he) (fun i hi => ih i hi (by omega))
theorem Kr {o : AOper} {s : St} {K K' : AVal → Hz → Prop} (h : B5 P W0 G o s K) (hk : ∀ v H', K v H' → K' v H') : B5 P W0 G o s K' := by
 have hr : ∀ {H : Hz} {r : Option ARes}, H7 P W0 H r K → H7 P W0 H r K' := fun {H r} h => by
  unfold H7 at h ⊢
  split at h
  · exact ⟨h.1, hk _ _ h.2⟩
  · exact hk _ _ h
  · obtain ⟨v, H', h1, h2⟩ := h
    exact ⟨v, H', h1, hk _ _ h2⟩
  · exact h
 unfold B5 at h ⊢
 split at h
 · exact hr h
 · split at h
   · rename_i b _
     cases hb : cond b _ _ with
     | true => rw [hb] at h; exact hr h
     | false => rw [hb] at h; exact hk _ _ h
   · exact hk _ _ h
   · exact h
theorem Wi {ops : Array Oper} {o : Oper} {a : AOper} (hc : B6 P ops o = some a) : Ah P o.op = some a.op := by
 unfold B6 at hc
 split at hc
 · split at hc
   · rename_i h
     injection hc with hc
     subst hc
     exact h
   · cases hc
 · cases hc
theorem Jv {j0 : Nat} : ∀ {n : Nat}, j0 < n → (List.range n).filter (fun j => j == j0) = [j0]
 | 0, h => by cases h
 | n + 1, h => by
   rw [List.range_succ, List.filter_append]
   by_cases he : j0 = n
   · subst he
     have : (List.range j0).filter (fun j => j == j0) = [] := by
      rw [List.filter_eq_nil_iff]
      intro x hx
      have := List.mem_range.1 hx
      simp; omega
     rw [this]; simp
   · rw [Jv (by omega)]
     have : ([n] : List Nat).filter (fun j => j == j0) = [] := by
      rw [List.filter_eq_nil_iff]
      intro x hx
      rw [List.mem_singleton] at hx
      subst hx
      simp; omega
     rw [this]; rfl
variable (P W0 G) in
def F8 : List AOper → St → (St → Prop) → Prop
 | [], s, K => K s
 | o :: r, s, K => B5 P W0 G o s fun v H' => Et o.dst s.n = true ∧ (Nat.ble 2 o.op.kind = false → H' = s.H) ∧ F8 r ⟨Fa o.dst v s.env, H', s.n⟩ K
theorem N8 {p : SP} {j0 : Nat} (hfin : p.fin = SP.nxt 0 j0) (hs0 : p.steps 0 = [j0]) (hs1 : p.steps (SP.nxt 0 j0) = []) (hst : ∀ σ ∈ p.states, σ = 0 ∨ σ = SP.nxt 0 j0) (hne : SP.nxt 0 j0 ≠ 0) :
 ∀ {l : List AOper} {j : Nat} {s : St} {K : St → Prop} {M : HMap}, (∀ k a, l[k]? = some a → p.kind.getD (j + k) 0 = a.op.kind) → (∀ k a, l[k]? = some a → cond (Nat.beq (j + k) j0) (Nat.ble 2 a.op.kind) (Nat.beq a.op.kind 0) = true) →
  F8 P W0 G l s K → (j ≤ j0 → j0 < j + l.length → M = [(0, s.H)] → C0 P W0 G p l j 0 M [] s K) ∧ (j0 < j → Di 0 M = true → Di (SP.nxt 0 j0) M = true → C0 P W0 G p l j (SP.nxt 0 j0) M [] s K)
 | [], j, s, K, M, _, _, h => by
   refine ⟨fun h1 h2 => by simp at h2; omega, fun _ k0 k1 => ⟨?_, h⟩⟩
   rw [hfin, hs1, Nat.beq_refl]
   simp only [nEq, Bool.and_self, Bool.true_and]
   exact List.all_eq_true.2 fun σ hσ => by rcases hst σ hσ with rfl | rfl <;> assumption
 | o :: r, j, s, K, M, hk, ho, h => by
   have k0 := hk 0 o rfl
   have o0 := ho 0 o rfl
   rw [Nat.add_zero] at k0 o0
   have hkr : ∀ k a, r[k]? = some a → p.kind.getD (j + 1 + k) 0 = a.op.kind := fun k a ha => by
    have := hk (k + 1) a (by simpa using ha)
    rw [show j + 1 + k = j + (k + 1) by omega]; exact this
   have hor : ∀ k a, r[k]? = some a → cond (Nat.beq (j + 1 + k) j0) (Nat.ble 2 a.op.kind) (Nat.beq a.op.kind 0) = true := fun k a ha => by
    have := ho (k + 1) a (by simpa using ha)
    rw [show j + 1 + k = j + (k + 1) by omega]; exact this
   unfold F8 at h
   obtain ⟨v, H', h1, h2, h3, h4⟩ := Nz h
   have heff : p.eff j = Nat.ble 2 o.op.kind := by unfold SP.eff; rw [k0]
   refine ⟨fun c1 c2 c3 => ?_, fun c1 c2 c3 => ?_⟩
   · by_cases hj : j = j0
     · subst hj
       rw [Nat.beq_refl, cond_true] at o0
       unfold C0
       refine Kr h1 fun v' X hx => ?_
       obtain ⟨rfl, rfl⟩ := hx
       refine ⟨h2, ?_⟩
       rw [heff, o0, cond_true]
       refine ⟨?_, trivial, ?_⟩
       · rw [hs0, c3]
         simp only [nEq, Nat.beq_refl, cond_true, Di, Bool.true_and]
         rw [show Nat.beq (SP.nxt 0 j) 0 = false from by
          cases hb : Nat.beq (SP.nxt 0 j) 0 with
          | false => rfl
          | true => exact absurd (nBq hb) hne]
         rfl
       · exact (N8 hfin hs0 hs1 hst hne hkr hor h4).2 (by omega) (by rw [c3]; exact Gf.2 (.inr (Gf.2 (.inl rfl)))) (Gf.2 (.inl rfl))
     · rw [show Nat.beq j j0 = false from by
        cases hb : Nat.beq j j0 with
        | false => rfl
        | true => exact absurd (nBq hb) hj, cond_false] at o0
       have hz := nBq o0
       have hb2 : Nat.ble 2 o.op.kind = false := by rw [hz]; rfl
       have hH := h3 hb2
       subst hH
       unfold C0
       refine Kr h1 fun v' X hx => ?_
       obtain ⟨rfl, rfl⟩ := hx
       refine ⟨h2, ?_⟩
       rw [heff, hb2, cond_false, k0, hz]
       refine ⟨rfl, trivial, ?_⟩
       exact (N8 hfin hs0 hs1 hst hne hkr hor h4).1 (by omega) (by simp only [lCo] at c2; omega) c3
   · have hj : j ≠ j0 := by omega
     rw [show Nat.beq j j0 = false from by
         cases hb : Nat.beq j j0 with
         | false => rfl
         | true => exact absurd (nBq hb) hj, cond_false] at o0
     have hz := nBq o0
     have hb2 : Nat.ble 2 o.op.kind = false := by rw [hz]; rfl
     have hH := h3 hb2
     subst hH
     unfold C0
     refine Kr h1 fun v' X hx => ?_
     obtain ⟨rfl, rfl⟩ := hx
     refine ⟨h2, ?_⟩
     rw [heff, hb2, cond_false, k0, hz]
     refine ⟨rfl, trivial, ?_⟩
     exact (N8 hfin hs0 hs1 hst hne hkr hor h4).2 (by omega) c2 c3
theorem nxt_bit {σ j : Nat} : tb (SP.nxt σ j) j = true := by
 show ((σ ||| (1 <<< j)).testBit j) = true
 rw [Nat.testBit_or, Nat.one_shiftLeft, Nat.testBit_two_pow_self, Bool.or_true]
theorem ExM.draw1 (hg : Gr P W0 G) {m : Nat} {l : List AOper} {b : Bool} (j0 : Nat) (hone : only j0 l = true) {s : St} {K : Am → St → Prop} (h : F8 P W0 G l s (K .normal)) : ExM P W0 m (.draw l b) s K := ExM.of fun c hc => by
 obtain ⟨id, ops, rfl, hc1, hsp, _⟩ := Lx hc
 obtain ⟨hcl, hcg⟩ := Ci hc1
 have hsz : l.length = ops.size := by rw [hcl]; simp
 simp only [only, bAt] at hone
 have hj0 : j0 < l.length := by simpa [Nat.blt_eq] using hone.1
 have hon : ∀ k a, l[k]? = some a → _root_.cond (Nat.beq k j0) (Nat.ble 2 a.op.kind) (Nat.beq a.op.kind 0) = true := fun k a ha => by
  have := List.all_eq_true.1 hone.2 k (List.mem_range.2 (List.getElem?_eq_some_iff.1 ha).1)
  rw [ha] at this
  exact this
 have h0 := hsp
 simp only [H8, bAt] at h0
 have hn : (C3 P ops.toList).n = ops.size := nBq h0.1.1.1.1
 have hkind : ∀ k a, l[k]? = some a → (C3 P ops.toList).kind.getD k 0 = a.op.kind := fun k a ha => by
  have hk : k < ops.size := by rw [← hsz]; exact (List.getElem?_eq_some_iff.1 ha).1
  have ho : ops.toList[k]? = some ops[k] := by simp [hk]
  obtain ⟨a', ha', hca⟩ := hcg k _ ho
  rw [ha] at ha'; injection ha' with ha'; subst ha'
  have := List.all_eq_true.1 h0.2 k (List.mem_range.2 hk)
  rw [Array.getElem?_eq_getElem hk] at this
  simp only [Q7, bAt] at this
  rw [nBq this.1.2]
  unfold Br
  rw [Wi hca]
 have heff : ∀ j, j < ops.size → (C3 P ops.toList).eff j = true → j = j0 := fun j hj he => by
  have ha : l[j]? = some (l[j]'(by omega)) := gGe _
  unfold SP.eff at he
  rw [hkind j _ ha] at he
  have := hon j _ ha
  cases hb : Nat.beq j j0 with
  | true => exact nBq hb
  | false =>
    rw [hb, cond_false] at this
    rw [nBq this] at he
    cases he
 have heff0 : (C3 P ops.toList).eff j0 = true := by
  have ha : l[j0]? = some (l[j0]'hj0) := gGe _
  have := hon j0 _ ha
  rw [Nat.beq_refl, cond_true] at this
  unfold SP.eff
  rw [hkind j0 _ ha]; exact this
 have hbit := nxt_bit (σ := 0) (j := j0)
 have hne : SP.nxt 0 j0 ≠ 0 := fun e => by rw [e] at hbit; simp [tb] at hbit
 have hself : (C3 P ops.toList).msk j0 j0 = false := by
  unfold SP.msk tb
  exact Nat.testBit_lt_two_pow (mask_lt hsp j0 (by omega))
 have hstep : ∀ σ j, j ∈ (C3 P ops.toList).steps σ → j = j0 ∧ tb σ j0 = false := fun σ j hj => by
  unfold SP.steps at hj
  rw [List.mem_filter, List.mem_range] at hj
  obtain ⟨hjn, hj⟩ := hj
  simp only [bAt, Bool.not_eq_true'] at hj
  have := heff j (by omega) hj.1.1
  subst this
  exact ⟨rfl, hj.1.2⟩
 have hs1 : (C3 P ops.toList).steps (SP.nxt 0 j0) = [] := by
  rw [List.eq_nil_iff_forall_not_mem]
  intro j hj
  have := (hstep _ j hj).2
  rw [hbit] at this; cases this
 have hmay : (C3 P ops.toList).mayB 0 j0 = true := (Rw (p := C3 P ops.toList) (N := ops.size) hn).2 (And.intro (fun i hi he hm => absurd hm (by rw [heff i hi he, hself]; simp)) (fun i _ _ _ => by simp [tb]))
 have hs0 : (C3 P ops.toList).steps 0 = [j0] := by
  unfold SP.steps
  rw [show (fun j => (C3 P ops.toList).eff j && not (tb 0 j) && (C3 P ops.toList).mayB 0 j) = (fun j => (C3 P ops.toList).eff j && not (tb 0 j) && (C3 P ops.toList).mayB 0 j) from rfl]
  have hf : (List.range (C3 P ops.toList).n).filter (fun j => (C3 P ops.toList).eff j && not (tb 0 j) && (C3 P ops.toList).mayB 0 j) = (List.range (C3 P ops.toList).n).filter (fun j => j == j0) := by
   refine List.filter_congr fun j hj => ?_
   have hj := List.mem_range.1 hj
   by_cases he : j = j0
   · subst he
     rw [heff0, hmay]
     simp [tb]
   · have : (C3 P ops.toList).eff j = false := by
      cases hb : (C3 P ops.toList).eff j with
      | false => rfl
      | true => exact absurd (heff j (by omega) hb) he
     rw [this]
     simp [he]
  rw [hf]
  exact Jv (by omega)
 have hst : ∀ σ ∈ (C3 P ops.toList).states, σ = 0 ∨ σ = SP.nxt 0 j0 := by
  refine O1 (Q := fun σ => σ = 0 ∨ σ = SP.nxt 0 j0) (fun σ hσ j hj => ?_) (by simp) (by simp)
  have hj' : j ∈ (C3 P ops.toList).steps σ := hj
  obtain ⟨rfl, hb⟩ := hstep σ j hj'
  rcases hσ with rfl | rfl
  · exact .inr rfl
  · rw [hbit] at hb; cases hb
 have hfin : (C3 P ops.toList).fin = SP.nxt 0 j0 := by
  have hin : SP.nxt 0 j0 ∈ (C3 P ops.toList).states := by
   have hz : (0 : Nat) ∈ (C3 P ops.toList).states := Fj h0.1.1.1.2
   have := List.all_eq_true.1 (List.all_eq_true.1 h0.1.1.2 0 hz) j0 (by rw [hs0]; simp)
   exact Fj this
  have h4 := List.all_eq_true.1 h0.1.2 _ hin
  have hall : (C3 P ops.toList).allIn (SP.nxt 0 j0) = true := by
   unfold SP.allIn
   rw [lAt]
   intro i hi
   have hi' := List.mem_range.1 hi
   cases he : (C3 P ops.toList).eff i with
   | false => rfl
   | true => rw [cond_true, heff i (by omega) he]; exact hbit
  rw [hall, cond_true] at h4
  exact (nBq h4).symm
 refine Go.Abs.drawC hg.mixed hg.g hc1 hsp ?_
 exact (N8 hfin hs0 hs1 hst hne (j := 0) (M := [(0, s.H)]) (fun k a ha => by rw [Nat.zero_add]; exact hkind k a ha) (fun k a ha => by rw [Nat.zero_add]; exact hon k a ha) h).1 (Nat.zero_le _) (by omega) rfl
variable {l : List (Nat × AVal)} {H H' : Hz} {n : Nat} {K : St → Prop} {r : List AOper}
theorem If {d : Nat} {op : AOp} {v : AVal} {side : List (Int × Int)} (h : aop G ⟨.al l, H, n⟩ op = some (.val v H side)) (hd : (Nat.blt d n && Nat.blt d 4094) = true) (hs : Af side) (k : F8 P W0 G r ⟨.al ((d, v) :: l), H, n⟩ K) : F8 P W0 G (⟨some d, none, op⟩ :: r) ⟨.al l, H, n⟩ K := by
 simp only [F8, B5, h]
 exact ⟨hs, hd, fun _ => rfl, k⟩
theorem A08 {d : Nat} {op : AOp} {f : Nat} {args : List AVal} {v : AVal} (h : aop G ⟨.al l, H, n⟩ op = some (.call f args)) (hd : (Nat.blt d n && Nat.blt d 4094) = true) (hk : Nat.ble 2 op.kind = true) (hc : A1 P W0 f args H v H') (k : F8 P W0 G r ⟨.al ((d, v) :: l), H', n⟩ K) : F8 P W0 G (⟨some d, none, op⟩ :: r) ⟨.al l, H, n⟩ K := by
 simp only [F8, B5, h]
 exact ⟨v, H', hc, hd, fun e => (by rw [hk] at e; cases e), k⟩
theorem wKv {d : Nat} {op : AOp} {v v0 : AVal} {side : List (Int × Int)} (h : aop G ⟨.al l, H, n⟩ op = some (.val v0 H side)) (hd : (Nat.blt d n && Nat.blt d 4094) = true) (hs : Af side) (hv : v0 = v) (k : F8 P W0 G r ⟨.al ((d, v) :: l), H, n⟩ K) : F8 P W0 G (⟨some d, none, op⟩ :: r) ⟨.al l, H, n⟩ K := by
 subst hv; exact If h hd hs k
theorem wBk {d : Nat} {op : AOp} {b c : Bool} (h : aop G ⟨.al l, H, n⟩ op = some (.val (.bool b) H [])) (hd : (Nat.blt d n && Nat.blt d 4094) = true) (hb : b = c) (k : F8 P W0 G r ⟨.al ((d, .bool c) :: l), H, n⟩ K) : F8 P W0 G (⟨some d, none, op⟩ :: r) ⟨.al l, H, n⟩ K := by
 subst hb; exact If h hd trivial k
theorem wNil (h : K ⟨.al l, H, n⟩) : F8 P W0 G [] ⟨.al l, H, n⟩ K := h
end
section
variable {F F' : Nat → Prop} {bs bs0 : List Nat} {H H0 : Hz} {w : World} {ρ : Nat → Nat} {m : Nat}
theorem A1.renG {P : Program} {W0 : World} {f : FuncId} {args : List AVal} {H H0 H0' : Hz} {v : AVal} (sel : List Nat) (ρ : Nat → Nat) (hs : Sel sel H0.length H0 H ρ) (hbH : B2 H0.length H0 = true) (hba : A8 H0.length args = true)
 (hl : H0.length ≤ H0'.length) (hρ : ∀ j, H0.length ≤ j → j < H0'.length → ρ j = H.length + (j - H0.length)) (hc : A1 P W0 f args H0 v H0') : A1 P W0 f (Eg ρ args) H (Abs.ren ρ v) (Bt (sel ++ List.range' H.length (H0'.length - H0.length)) (H0'.map (D6 ρ)) (H ++ List.replicate (H0'.length - H0.length) .dead)) := by
 refine ⟨hc.1, fun F bs w cargs hh hr => ?_⟩
 have hbl : bs.length = H.length := hh.len
 let bs0 : List Nat := sel.map fun i => bs.getD i 0
 have hbs0 : ∀ j i, sel[j]? = some i → bs0[j]? = bs[i]? := fun j i hj => by
  have hi : i < bs.length := by rw [hbl]; exact hs.lt i (mGe hj)
  show (sel.map fun i => bs.getD i 0)[j]? = bs[i]?
  rw [List.getElem?_map, hj]
  simp [List.getD_eq_getElem?_getD, gGe hi]
 have hbsl : bs0.length = H0.length := by show (sel.map _).length = _; rw [List.length_map, hs.len]
 have hsub : ∀ b, b ∈ bs0 → b ∈ bs := fun b hb => by
  obtain ⟨j, hj⟩ := List.getElem?_of_mem hb
  have hjl : j < sel.length := by rw [hs.len, ← hbsl]; exact (List.getElem?_eq_some_iff.1 hj).1
  rw [hbs0 j sel[j] (gGe hjl)] at hj
  exact mGe hj
 let F' : Nat → Prop := fun b => F b ∨ (b ∈ bs ∧ b ∉ bs0)
 have hdown : A14 F F' bs bs0 H H0 ρ H0.length := by
  refine ⟨fun j hj => ?_, fun j hj => hbs0 j (ρ j) (hs.rho j hj), hsub, fun b hb => hb.imp id And.left⟩
  exact ⟨H0[j], gGe hj, hs.get j _ (gGe hj)⟩
 have hnd0 : bs0.Nodup := by
  refine Np fun i j b hij h1 h2 => ?_
  have hi' : i < sel.length := by rw [hs.len, ← hbsl]; exact (List.getElem?_eq_some_iff.1 h1).1
  have hj' : j < sel.length := by rw [hs.len, ← hbsl]; exact (List.getElem?_eq_some_iff.1 h2).1
  rw [hbs0 i _ (gGe hi')] at h1
  rw [hbs0 j _ (gGe hj')] at h2
  have := Cm hh.nodup h1 h2
  have h2 := Cm hs.nd (i := i) (j := j) (gGe hi') (by rw [gGe hj', this])
  omega
 have hh0 : A7 W0 F' bs0 H0 w := by
  refine ⟨hbsl, hh.base, fun b hb => hh.low b (hsub b hb), hnd0, fun b hb => ?_, fun i o b hi hb => ?_⟩
  · rcases hb with hb | ⟨hb, hn⟩
    · obtain ⟨q1, q2, q3⟩ := hh.forb b hb
      exact ⟨q1, q2, fun hm => q3 (hsub b hm)⟩
    · exact ⟨(hh.low b hb).1, (hh.low b hb).2, hn⟩
  · have hil : i < H0.length := (List.getElem?_eq_some_iff.1 hi).1
    have hb' : bs[ρ i]? = some b := by rw [← hdown.blk i hil]; exact hb
    have ho := hh.obj (ρ i) (D6 ρ o) b (hs.get i o hi) hb'
    cases o with
    | dead => trivial
    | iter s p => exact ho
    | mp es => exact ho
    | cells T cs op =>
      have hcs := Kz hbH hi
      cases op with
      | false => obtain ⟨vs, rest, fr, q1, q2, q3⟩ := ho; exact ⟨vs, rest, fr, q1, A5.down hdown cs vs hcs q2, q3⟩
      | true => obtain ⟨vs, rest, fr, q1, q2, q3⟩ := ho; exact ⟨vs, rest, fr, q1, A5.down hdown cs vs hcs q2, q3⟩
 refine Calls.mono (hc.2 F' bs0 w cargs hh0 (A5.down hdown args cargs hba hr)) fun e w' he => ?_
 obtain ⟨cv, bs0', rfl, hv, hh', he'⟩ := he
 let k := H0'.length - H0.length
 let sel' := sel ++ List.range' H.length k
 let Hp := H ++ List.replicate k A2.dead
 let bp := bs ++ List.replicate k 0
 have hHp : Hp.length = H.length + k := by show (H ++ List.replicate k A2.dead).length = _; rw [lAp, List.length_replicate]
 have hbp : bp.length = H.length + k := by show (bs ++ List.replicate k 0).length = _; rw [lAp, List.length_replicate, hbl]
 have hselN : ∀ i, i ∈ List.range' H.length k ↔ H.length ≤ i ∧ i < H.length + k := fun i => by rw [List.mem_range'_1]
 have hnd' : sel'.Nodup := List.nodup_append.2 ⟨hs.nd, List.nodup_range', fun a ha b hb e => by
  subst e
  have := hs.lt _ ha
  have := ((hselN _).1 hb).1
  omega⟩
 have hsl' : sel'.length = H0'.length := by
  show (sel ++ List.range' H.length k).length = _
  rw [lAp, List.length_range', hs.len]; omega
 have hl0' : bs0'.length = sel'.length := by rw [hh'.len, hsl']
 have hsl : sel'.length = H0'.length := hsl'
 have hlt' : ∀ i ∈ sel', i < H.length + k := fun i hi => by
  rcases List.mem_append.1 hi with h | h
  · have := hs.lt _ h; omega
  · exact ((hselN _).1 h).2
 let H' := Bt sel' (H0'.map (D6 ρ)) Hp
 let bs' := Bt sel' bs0' bp
 have hH'l : H'.length = H.length + k := by show (Bt _ _ _).length = _; rw [F2, hHp]
 have hbs'l : bs'.length = H.length + k := by show (Bt _ _ _).length = _; rw [F2, hbp]
 have inj0 : ∀ (j : Nat), j < H0.length → sel[j]? = some (ρ j) := hs.rho
 have inj : ∀ (j : Nat), j < H0'.length → sel'[j]? = some (ρ j) := fun j hj => by
  show (sel ++ List.range' H.length k)[j]? = _
  by_cases hjm : j < H0.length
  · rw [List.getElem?_append_left (by rw [hs.len]; exact hjm)]; exact hs.rho j hjm
  · rw [List.getElem?_append_right (by rw [hs.len]; omega), hs.len, hρ j (by omega) hj]
    rw [List.getElem?_range' (by omega)]
    simp
 have getO : ∀ j o, H0'[j]? = some o → H'[ρ j]? = some (D6 ρ o) := fun j o ho => by
  have hj := (List.getElem?_eq_some_iff.1 ho).1
  exact G6 sel' _ Hp j (ρ j) _ hnd' (inj j hj) (by rw [List.getElem?_map, ho]; rfl) (by rw [hHp]; exact hlt' _ (mGe (inj j hj)))
 have getB : ∀ j b, bs0'[j]? = some b → bs'[ρ j]? = some b := fun j b hb => by
  have hj : j < H0'.length := by rw [← hsl', ← hl0']; exact (List.getElem?_eq_some_iff.1 hb).1
  exact G6 sel' _ bp j (ρ j) _ hnd' (inj j hj) hb (by rw [hbp]; exact hlt' _ (mGe (inj j hj)))
 have noSel : ∀ i, i < H.length → (i ∈ sel' ↔ i ∈ sel) := fun i hi => by
  show i ∈ sel ++ List.range' H.length k ↔ _
  rw [List.mem_append, hselN]
  exact ⟨fun h => h.elim id fun h => by omega, .inl⟩
 have noO : ∀ i, i < H.length → i ∉ sel → H'[i]? = H[i]? := fun i hl hi => by
  have h1 : H'[i]? = Hp[i]? := Ge sel' _ Hp i (fun h => hi ((noSel i hl).1 h))
  rw [h1]
  exact List.getElem?_append_left hl
 have noB : ∀ i, i < H.length → i ∉ sel → bs'[i]? = bs[i]? := fun i hl hi => by
  have h1 : bs'[i]? = bp[i]? := Ge sel' _ bp i (fun h => hi ((noSel i hl).1 h))
  rw [h1]
  exact List.getElem?_append_left (by rw [hbl]; exact hl)
 have selj : ∀ i, i ∈ sel → ∃ j, j < H0.length ∧ ρ j = i ∧ sel[j]? = some i := fun i hi => by
  obtain ⟨j, hj⟩ := List.getElem?_of_mem hi
  have hjl : j < H0.length := by rw [← hs.len]; exact (List.getElem?_eq_some_iff.1 hj).1
  have := inj0 j hjl
  rw [this] at hj
  injection hj with hj
  exact ⟨j, hjl, hj, by rw [this, hj]⟩
 have getB' : ∀ i b, bs'[i]? = some b → (i < H.length ∧ i ∉ sel ∧ bs[i]? = some b) ∨ ∃ j, j < H0'.length ∧ ρ j = i ∧ bs0'[j]? = some b := fun i b hb => by
  have hi : i < H.length + k := by rw [← hbs'l]; exact (List.getElem?_eq_some_iff.1 hb).1
  have yes : ∀ j, j < H0'.length → ρ j = i → bs0'[j]? = some b := fun j hj he => by
   have hjl : j < bs0'.length := by rw [hl0', hsl']; exact hj
   have := getB j _ (gGe hjl)
   rw [he, hb] at this
   injection this with this
   rw [gGe hjl, this]
  by_cases hil : i < H.length
  · by_cases his : i ∈ sel
    · obtain ⟨j, hj, he, hsj⟩ := selj i his
      exact .inr ⟨j, by omega, he, yes j (by omega) he⟩
    · exact .inl ⟨hil, his, by rw [← noB i hil his]; exact hb⟩
  · have hj : H0.length + (i - H.length) < H0'.length := by omega
    have he : ρ (H0.length + (i - H.length)) = i := by rw [hρ _ (by omega) hj]; omega
    exact .inr ⟨_, hj, he, yes _ hj he⟩
 have notin : ∀ i b, i ∉ sel → bs[i]? = some b → b ∉ bs0 := fun i b hi hb hm => by
  obtain ⟨j, hj⟩ := List.getElem?_of_mem hm
  have hjl : j < sel.length := by rw [hs.len, ← hbsl]; exact (List.getElem?_eq_some_iff.1 hj).1
  rw [hbs0 j sel[j] (gGe hjl)] at hj
  have := Cm hh.nodup hb hj
  exact hi (this ▸ List.getElem_mem hjl)
 have memB' : ∀ b, b ∈ bs' → (b ∈ bs ∧ b ∉ bs0) ∨ b ∈ bs0' := fun b hb => by
  obtain ⟨i, hi⟩ := List.getElem?_of_mem hb
  rcases getB' i b hi with ⟨_, h1, h2⟩ | ⟨j, _, _, h3⟩
  · exact .inl ⟨mGe h2, notin i b h1 h2⟩
  · exact .inr (mGe h3)
 have hup : Up F F' bs' bs0' H' H0' ρ := by
  refine ⟨getO, getB, fun b hb hf => ⟨fun hm => ?_, fun hF => hf (.inl hF)⟩⟩
  rcases memB' b hm with h1 | h1
  · exact hf (.inr h1)
  · exact hb h1
 have hext : Ext bs H w bs' H' w' := by
  refine ⟨he'.size, fun k hk hn => he'.block k hk fun hm => hn (hsub k hm), fun k hk => ?_, fun i o ho => ?_⟩
  · rcases memB' k hk with h1 | h1
    · exact .inl h1.1
    · rcases he'.new k h1 with h2 | h2
      · exact .inl (hsub k h2)
      · exact .inr h2
  · by_cases hi : i ∈ sel
    · obtain ⟨j, hj, rfl, hsj⟩ := selj i hi
      have ho0 := gGe hj
      have hoo := hs.get j _ ho0
      rw [ho] at hoo
      injection hoo with hoo
      obtain ⟨o', hj', hx⟩ := he'.obj j _ ho0
      refine ⟨D6 ρ o', getO j o' hj', ?_⟩
      have hbj : bs0[j]? = bs[ρ j]? := hbs0 j _ hsj
      have hbj' : bs0'[j]? = bs'[ρ j]? := by
       have hjl : j < bs0'.length := by rw [hl0', hsl']; omega
       rw [gGe hjl, getB j _ (gGe hjl)]
      rw [hoo]
      cases hc0 : H0[j] with
      | dead => rw [hc0] at hx; simp only [B0] at hx; subst hx; rfl
      | iter s p =>
        rw [hc0] at hx
        rcases hx with rfl | ⟨s', p', rfl, hb⟩
        · exact .inl rfl
        · exact .inr ⟨s', p', rfl, by rw [← hbj', ← hbj]; exact hb⟩
      | mp es =>
        rw [hc0] at hx
        rcases hx with rfl | ⟨es', rfl, hb⟩
        · exact .inl rfl
        · exact .inr ⟨es', rfl, by rw [← hbj', ← hbj]; exact hb⟩
      | cells T cs op =>
        rw [hc0] at hx
        cases op with
        | false =>
          rcases hx with rfl | ⟨T', cs', rfl, h1, hb⟩
          · exact .inl rfl
          · exact .inr ⟨T', _, rfl, by rw [Be, Be, h1], by rw [← hbj', ← hbj]; exact hb⟩
        | true =>
          rcases hx with rfl | ⟨T', cs', rfl, h1⟩
          · exact .inl rfl
          · refine .inr ⟨T', _, rfl, ?_⟩
            rw [Be, Be, ← hbj', ← hbj]
            exact h1
    · have hil := (List.getElem?_eq_some_iff.1 ho).1
      refine ⟨o, by rw [noO i hil hi]; exact ho, ?_⟩
      have hb := noB i hil hi
      have hz : ∀ b, bs[i]? = some b → Bv w' b = Bv w b := fun b hb' => by
       unfold Bv
       rw [he'.block b (hh.low b (mGe hb')).2 (notin i b hi hb')]
      cases o with
      | dead => rfl
      | iter s p => exact .inr ⟨s, p, rfl, hb⟩
      | mp es => exact .inr ⟨es, rfl, hb⟩
      | cells T cs op =>
        cases op with
        | false => exact .inr ⟨T, cs, rfl, rfl, hb⟩
        | true => exact .inr ⟨T, cs, rfl, .inr ⟨rfl, hb, hz⟩⟩
 refine ⟨cv, bs', rfl, Rep.up hup v cv hv, ?_, hext⟩
 refine ⟨by rw [hbs'l]; exact hH'l.symm, hh'.base, fun b hb => ?_, ?_, fun b hb => ?_, fun i o b hi hb => ?_⟩
 · rcases memB' b hb with h1 | h1
   · exact ⟨(hh.low b h1.1).1, nLl (hh.low b h1.1).2 he'.size⟩
   · exact hh'.low b h1
 · refine Np fun i j b hij e hb => ?_
   rcases getB' i b e with ⟨_, h1, h2⟩ | ⟨i', h1, h2, h3⟩ <;> rcases getB' j b hb with ⟨_, k1, k2⟩ | ⟨j', k1, k2, k3⟩
   · have := Cm hh.nodup h2 k2; omega
   · exact (hh'.forb b (.inr ⟨mGe h2, notin i b h1 h2⟩)).2.2 (mGe k3)
   · exact (hh'.forb b (.inr ⟨mGe k2, notin j b k1 k2⟩)).2.2 (mGe h3)
   · have := Cm hh'.nodup h3 k3
     subst this
     omega
 · obtain ⟨q1, q2, q3⟩ := hh'.forb b (.inl hb)
   refine ⟨q1, q2, fun hm => ?_⟩
   rcases memB' b hm with h1 | h1
   · exact (hh.forb b hb).2.2 h1.1
   · exact q3 h1
 · rcases getB' i b hb with ⟨h0, h1, h2⟩ | ⟨j, hjl, rfl, h3⟩
   · rw [noO i h0 h1] at hi
     exact (hh.obj i o b hi h2).ext hext (he'.block b (hh.low b (mGe h2)).2 (notin i b h1 h2))
   · have h4 := getO j _ (gGe hjl)
     rw [hi] at h4
     injection h4 with h4
     have h5 := hh'.obj j _ b (gGe hjl) h3
     rw [h4]
     cases hc0 : H0'[j] with
     | dead => trivial
     | iter s p => rw [hc0] at h5; exact h5
     | mp es => rw [hc0] at h5; exact h5
     | cells T cs op =>
       rw [hc0] at h5
       cases op with
       | false => obtain ⟨vs, rest, fr, q1, q2, q3⟩ := h5; exact ⟨vs, rest, fr, q1, A5.up hup cs vs q2, q3⟩
       | true => obtain ⟨vs, rest, fr, q1, q2, q3⟩ := h5; exact ⟨vs, rest, fr, q1, A5.up hup cs vs q2, q3⟩
end
def bt (s : Bz) (k : Nat) : Nat := (s.getD k 0).toNat
theorem get_bt (s : Bz) (k : Nat) : ((⟨s.toArray⟩ : ByteArray).get! k).toNat = bt s k := by
 have : (⟨s.toArray⟩ : ByteArray).get! k = s.getD k 0 := by
  show (s.toArray)[k]! = _
  by_cases h : k < s.length
  · simp [h]
  · simp [h]; rfl
 rw [this]; rfl
def Im (s : Bz) (i n : Nat) : Prop := i + n ≤ s.length ∧
 ((n = 1 ∧ bt s i < 128) ∨ (n = 2 ∧ 194 ≤ bt s i ∧ bt s i ≤ 223 ∧ 128 ≤ bt s (i + 1) ∧ bt s (i + 1) ≤ 191)
   ∨ (n = 3 ∧ 224 ≤ bt s i ∧ bt s i ≤ 239 ∧ 128 ≤ bt s (i + 1) ∧ bt s (i + 1) ≤ 191 ∧ (bt s i = 224 → 160 ≤ bt s (i + 1)) ∧ (bt s i = 237 → bt s (i + 1) ≤ 159) ∧ 128 ≤ bt s (i + 2) ∧ bt s (i + 2) ≤ 191)
   ∨ (n = 4 ∧ 240 ≤ bt s i ∧ bt s i ≤ 244 ∧ 128 ≤ bt s (i + 1) ∧ bt s (i + 1) ≤ 191 ∧ (bt s i = 240 → 144 ≤ bt s (i + 1)) ∧ (bt s i = 244 → bt s (i + 1) ≤ 143) ∧ 128 ≤ bt s (i + 2) ∧ bt s (i + 2) ≤ 191 ∧ 128 ≤ bt s (i + 3) ∧ bt s (i + 3) ≤ 191))
theorem A0q (s : Bz) (i : Nat) : Utf8.decode ⟨s.toArray⟩ i =
 (if bt s i < 128 then (bt s i, 1)
 else if bt s i / 32 == 6 && (decide (i + 1 < s.length) && bt s (i + 1) / 64 == 2) then
  (if (bt s i % 32) * 64 + bt s (i + 1) % 64 ≥ 128 then ((bt s i % 32) * 64 + bt s (i + 1) % 64, 2) else (Utf8.runeError, 1))
 else if bt s i / 16 == 14 && (decide (i + 1 < s.length) && bt s (i + 1) / 64 == 2) && (decide (i + 2 < s.length) && bt s (i + 2) / 64 == 2) then
  (if (bt s i % 16) * 4096 + (bt s (i + 1) % 64) * 64 + bt s (i + 2) % 64 ≥ 2048 && Utf8.valid (((bt s i % 16) * 4096 + (bt s (i + 1) % 64) * 64 + bt s (i + 2) % 64 : Nat)) then ((bt s i % 16) * 4096 + (bt s (i + 1) % 64) * 64 + bt s (i + 2) % 64, 3) else (Utf8.runeError, 1))
 else if bt s i / 8 == 30 && (decide (i + 1 < s.length) && bt s (i + 1) / 64 == 2) && (decide (i + 2 < s.length) && bt s (i + 2) / 64 == 2) && (decide (i + 3 < s.length) && bt s (i + 3) / 64 == 2) then
  (if (bt s i % 8) * 262144 + (bt s (i + 1) % 64) * 4096 + (bt s (i + 2) % 64) * 64 + bt s (i + 3) % 64 ≥ 65536 && Utf8.valid (((bt s i % 8) * 262144 + (bt s (i + 1) % 64) * 4096 + (bt s (i + 2) % 64) * 64 + bt s (i + 3) % 64 : Nat)) then ((bt s i % 8) * 262144 + (bt s (i + 1) % 64) * 4096 + (bt s (i + 2) % 64) * 64 + bt s (i + 3) % 64, 4) else (Utf8.runeError, 1))
 else (Utf8.runeError, 1)) := by
 have hsz : (⟨s.toArray⟩ : ByteArray).size = s.length := by simp [ByteArray.size]
 unfold Utf8.decode
 simp only [get_bt, hsz, Nat.add_zero]
theorem Z8 {s : Bz} {i n : Nat} (h : Im s i n) : (Utf8.decode ⟨s.toArray⟩ i).2 = n ∧ (bt s i < 128 → (Utf8.decode ⟨s.toArray⟩ i).1 = bt s i) ∧ (128 ≤ bt s i → 128 ≤ (Utf8.decode ⟨s.toArray⟩ i).1 ∧ 2 ≤ n) := by
 obtain ⟨hl, h⟩ := h
 rw [A0q]
 rcases h with ⟨rfl, h⟩ | ⟨rfl, h1, h2, h3, h4⟩ | ⟨rfl, h1, h2, h3, h4, h5, h6, h7, h8⟩ | ⟨rfl, h1, h2, h3, h4, h5, h6, h7, h8, h9, h10⟩
 · rw [if_pos h]
   exact ⟨rfl, fun _ => rfl, fun h' => by omega⟩
 · generalize bt s i = a at *
   generalize bt s (i + 1) = b at *
   have e1 : a / 32 = 6 := by omega
   have e2 : b / 64 = 2 := by omega
   have e3 : i + 1 < s.length := by omega
   have e4 : a % 32 * 64 + b % 64 ≥ 128 := by omega
   rw [if_neg (by omega), if_pos (by simp [e1, e2, e3]), if_pos e4]
   exact ⟨rfl, fun h' => by omega, fun _ => ⟨e4, Nat.le_refl _⟩⟩
 · generalize bt s i = a at *
   generalize bt s (i + 1) = b at *
   generalize bt s (i + 2) = c at *
   have e0 : ¬ a / 32 = 6 := by omega
   have e1 : a / 16 = 14 := by omega
   have e2 : b / 64 = 2 := by omega
   have e2' : c / 64 = 2 := by omega
   have e3 : i + 1 < s.length := by omega
   have e3' : i + 2 < s.length := by omega
   have e4 : a % 16 * 4096 + b % 64 * 64 + c % 64 ≥ 2048 := by omega
   have e5 : Utf8.valid ((a % 16 * 4096 + b % 64 * 64 + c % 64 : Nat)) = true := by
    simp only [Utf8.valid, Bool.or_eq_true, bAt, dTe]
    omega
   rw [if_neg (by omega), if_neg (by simp [e0]), if_pos (by simp [e1, e2, e2', e3, e3']), if_pos (by rw [e5]; simp [e4])]
   exact ⟨rfl, fun h' => by omega, fun _ => ⟨by show 128 ≤ a % 16 * 4096 + b % 64 * 64 + c % 64; omega, by omega⟩⟩
 · generalize bt s i = a at *
   generalize bt s (i + 1) = b at *
   generalize bt s (i + 2) = c at *
   generalize bt s (i + 3) = d at *
   have e0 : ¬ a / 32 = 6 := by omega
   have e0' : ¬ a / 16 = 14 := by omega
   have e1 : a / 8 = 30 := by omega
   have e2 : b / 64 = 2 := by omega
   have e2' : c / 64 = 2 := by omega
   have e2'' : d / 64 = 2 := by omega
   have e3 : i + 1 < s.length := by omega
   have e3' : i + 2 < s.length := by omega
   have e3'' : i + 3 < s.length := by omega
   have e4 : a % 8 * 262144 + b % 64 * 4096 + c % 64 * 64 + d % 64 ≥ 65536 := by omega
   have e5 : Utf8.valid ((a % 8 * 262144 + b % 64 * 4096 + c % 64 * 64 + d % 64 : Nat)) = true := by
    simp only [Utf8.valid, Bool.or_eq_true, bAt, dTe]
    omega
   rw [if_neg (by omega), if_neg (by simp [e0]), if_neg (by simp [e0']), if_pos (by simp [e1, e2, e2', e2'', e3, e3', e3'']), if_pos (by rw [e5]; simp [e4])]
   exact ⟨rfl, fun h' => by omega, fun _ => ⟨by show 128 ≤ a % 8 * 262144 + b % 64 * 4096 + c % 64 * 64 + d % 64; omega, by omega⟩⟩
inductive Txt (s : Bz) : Nat → Prop where
 | done : Txt s s.length
 | step {i n : Nat} : Im s i n → 32 ≤ bt s i → bt s i ≠ 127 → Txt s (i + n) → Txt s i
theorem Im.pos {s : Bz} {i n : Nat} (h : Im s i n) : 1 ≤ n := by
 obtain ⟨_, h⟩ := h
 rcases h with ⟨rfl, _⟩ | ⟨rfl, _⟩ | ⟨rfl, _⟩ | ⟨rfl, _⟩ <;> decide
theorem Txt.le {s : Bz} {i : Nat} (h : Txt s i) : i ≤ s.length := by
 cases h with
 | done => exact Nat.le_refl _
 | step h _ _ _ => have := h.1; omega
theorem Nq (s : Bz) (i k : Nat) : bt (s.drop i) k = bt s (i + k) := by
 unfold bt
 rw [List.getD_eq_getElem?_getD, List.getD_eq_getElem?_getD, List.getElem?_drop]
theorem Im.drop {s : Bz} {i n : Nat} (h : Im s i n) : Im (s.drop i) 0 n := by
 obtain ⟨h1, h⟩ := h
 refine ⟨by rw [List.length_drop]; omega, ?_⟩
 simp only [Nq, Nat.add_zero, Nat.zero_add]
 exact h
theorem Txt.shift {s : Bz} {j : Nat} : ∀ {i : Nat}, Txt s i → ∀ k, i = j + k → Txt (s.drop j) k := by
 intro i h
 induction h with
 | done =>
   intro k hk
   have : k = (s.drop j).length := by rw [List.length_drop]; omega
   rw [this]
   exact .done
 | @step i n h1 h2 h3 _ ih =>
   intro k hk
   subst hk
   have hb : bt (s.drop j) k = bt s (j + k) := Nq s j k
   refine .step (n := n) ?_ (by rw [hb]; exact h2) (by rw [hb]; exact h3) (ih (k + n) (by omega))
   obtain ⟨q1, q⟩ := h1
   refine ⟨by rw [List.length_drop]; omega, ?_⟩
   simp only [Nq, ← Nat.add_assoc]
   exact q
theorem Txt.validGo {s : Bz} {i : Nat} (h : Txt s i) : ∀ f, Lib.validGoD f (s.drop i) = true := by
 induction h with
 | done =>
   intro f
   cases f with
   | zero => rfl
   | succ f => simp [Lib.validGoD]
 | @step i n h1 _ _ _ ih =>
   intro f
   cases f with
   | zero => rfl
   | succ f =>
     unfold Lib.validGoD
     split
     · rfl
     · obtain ⟨q1, q2, q3⟩ := Z8 h1.drop
       have hd : Lib.decodeL (s.drop i) = Utf8.decode ⟨(s.drop i).toArray⟩ 0 := rfl
       have hb : bt (s.drop i) 0 = bt s i := by rw [Nq, Nat.add_zero]
       rw [hb] at q2 q3
       rw [if_neg, hd, q1, List.drop_drop]
       · exact ih f
       · rw [hd]
         rintro ⟨e1, e2⟩
         rcases Nat.lt_or_ge (bt s i) 128 with h | h
         · have := q2 h; omega
         · have := (q3 h).2; omega
theorem Txt.valid {s : Bz} (h : Txt s 0) : Lib.validD s = true := by
 have := h.validGo s.length
 rw [List.drop_zero] at this
 exact this
theorem Txt.rune {s : Bz} {i : Nat} (h : Txt s i) (hi : i < s.length) : Txt s (i + (Utf8.decode ⟨s.toArray⟩ i).2) ∧ 32 ≤ (Utf8.decode ⟨s.toArray⟩ i).1 ∧ (Utf8.decode ⟨s.toArray⟩ i).1 ≠ 127 ∧ 1 ≤ (Utf8.decode ⟨s.toArray⟩ i).2 := by
 cases h with
 | done => omega
 | @step _ n h1 h2 h3 h4 =>
   obtain ⟨q1, q2, q3⟩ := Z8 h1
   have hp := h1.pos
   rw [q1]
   refine ⟨h4, ?_, ?_, hp⟩
   · rcases Nat.lt_or_ge (bt s i) 128 with h | h
     · rw [q2 h]; exact h2
     · have := (q3 h).1; omega
   · rcases Nat.lt_or_ge (bt s i) 128 with h | h
     · rw [q2 h]; exact h3
     · have := (q3 h).1; omega
theorem Txt.plain {s : Bz} (h : ∀ i, i < s.length → 32 ≤ bt s i ∧ bt s i < 127) : ∀ k i, i + k = s.length → Txt s i
 | 0, i, hi => by have : i = s.length := by omega
                  subst this; exact .done
 | k + 1, i, hi => by
   obtain ⟨h1, h2⟩ := h i (by omega)
   exact .step (n := 1) ⟨by omega, .inl ⟨rfl, by omega⟩⟩ h1 (by omega) (Txt.plain h k (i + 1) (by omega))
end Go.Abs
namespace Go.Abs
open Go.RowKit Go.Proofs Go.Sort
def Ba (ss : List Bz) : List AVal := ss.map AVal.str
section
variable {F : Nat → Prop} {bs : List Nat} {H : Hz} {w W0 : World}
theorem Rt {ss : List Bz} {vs : List Value} (h : A5 F bs H w (Ba ss) vs) : vs = ss.map encStr := by
 induction ss generalizing vs with
 | nil => simpa [Ba, A5] using h
 | cons s ss ih =>
   simp only [Ba, List.map_cons, A5, Rep] at h
   obtain ⟨_, us, rfl, rfl, h⟩ := h
   rw [ih h]
   rfl
theorem A1j {ss : List Bz} : A5 F bs H w (Ba ss) (ss.map encStr) := by
 induction ss with
 | nil => simp [Ba, A5]
 | cons s ss ih =>
   simp only [Ba, List.map_cons, A5, Rep]
   exact ⟨_, _, rfl, rfl, ih⟩
theorem V5 {ss ts : List Bz} (rest : List Value) (hl : ts.length = ss.length) : putCells encStr 0 ts.toArray (ss.map encStr ++ rest).toArray = (ts.map encStr ++ rest).toArray := by
 apply Array.ext'
 apply List.ext_getElem?
 intro j
 rw [Array.getElem?_toList]
 simp only [putCells, Array.getElem?_mapIdx, List.getElem?_toArray, Nat.zero_le, true_and, Nat.zero_add, Nat.sub_zero, List.size_toArray]
 by_cases hj : j < ts.length
 · rw [List.getElem?_append_left (by simp; omega), List.getElem?_append_left (by simp; omega)]
   simp [hj, show j < ss.length by omega]
 · rw [List.getElem?_append_right (by simp; omega), List.getElem?_append_right (by simp; omega)]
   simp only [List.length_map, hl]
   cases hr : rest[j - ss.length]? with
   | none => rfl
   | some v =>
     simp only [Option.map_some]
     rw [if_neg (by omega)]
theorem A0c (hh : A7 W0 F bs H w) {id b : Nat} {T : TypeId} {ss ts : List Bz} (ho : H[id]? = some (.cells T (Ba ss) false)) (hb : bs[id]? = some b) (hl : ts.length = ss.length) (n : Nat) (os : Array Obj) :
 A7 W0 F bs (H.set id (.cells T (Ba ts) false)) (grow (putRow encStr (Sort.ahead w n) b 0 ts.toArray) os) ∧ Ext bs H w bs (H.set id (.cells T (Ba ts) false)) (grow (putRow encStr (Sort.ahead w n) b 0 ts.toArray) os) := by
 obtain ⟨vs, rest, fr, h1, h2, h3⟩ := hh.obj id _ b ho hb
 obtain rfl := Rt h2
 have hlow := hh.low b (mGe hb)
 have hsz : (putRow encStr (Sort.ahead w n) b 0 ts.toArray).heap.size = w.heap.size := by simp [Sort.ahead]
 have hg0 := heap_sorted (n := n) (os := #[]) ts.toArray h1
 rw [grow_empty, V5 rest hl] at hg0
 have hgr := grownBy_sorted (w := w) (g := b) (n := n) (os := #[]) ts.toArray
 rw [grow_empty] at hgr
 obtain ⟨g1, g2, g3, _, g5⟩ := hgr
 have hother : ∀ k, k ≠ b → (putRow encStr (Sort.ahead w n) b 0 ts.toArray).heap[k]? = w.heap[k]? := fun k hk => by
  by_cases hkl : k < w.heap.size
  · exact g5 k hkl (fun e => hk (Option.some.inj e))
  · rw [Array.getElem?_eq_none (by omega), Array.getElem?_eq_none (by omega)]
 have hoe : B0 bs bs w (putRow encStr (Sort.ahead w n) b 0 ts.toArray) id (.cells T (Ba ss) false) (.cells T (Ba ts) false) := .inr ⟨T, _, rfl, by simp [Ba, hl], rfl⟩
 have hext := Ext.upd (w' := putRow encStr (Sort.ahead w n) b 0 ts.toArray) hh.nodup ho hb hsz hother hoe
 have hbelow : Below W0.heap.size w (putRow encStr (Sort.ahead w n) b 0 ts.toArray) := ⟨g1, g2, g3, by omega, fun k hk => hother k (by omega)⟩
 have hup := A7.upd hh ho hb hbelow hsz hother hoe ⟨ts.map encStr, rest, fr, hg0, A1j, fun j hj => h3 j (by simpa [hl] using hj)⟩
 obtain ⟨k1, k2⟩ := hup.below (Yc (Below.refl _ _) os)
 exact ⟨k1, hext.trans k2⟩
theorem Tq {b : Nat} {T : TypeId} {ss : List Bz} {rest : List Value} {fr : Nat × Nat} (h1 : w.heap[b]? = some (.cells (ss.map encStr ++ rest).toArray T fr)) (h3 : ∀ j, j < (ss.map encStr).length → ¬ (fr.1 ≤ j ∧ j < fr.2)) : Holds encStr w b 0 ss.toArray := by
 intro j hj
 have hj : j < ss.length := by simpa using hj
 constructor
 · rw [cell_of_row w b _ _ T fr h1]
   simp only [Nat.zero_add, List.getElem?_toArray]
   rw [List.getElem?_append_left (by simpa using hj)]
   simp [hj]
 · unfold World.frozen?
   rw [h1]
   have := h3 j (by simpa using hj)
   simp only [Nat.zero_add, Bool.and_eq_false_iff, dFn]
   omega
end
section
variable {P : Program} {W0 : World} {H : Hz}
theorem sortP {f : Nat} (hf : E1 P f)
 (hc : ∀ (blk off cap : Nat) (ss : List Bz) (w : World), Holds encStr w blk off ss.toArray → blk < w.heap.size → ss.length < 4611686018427387904 →
  Calls P f #[.slice (some ⟨blk, off, none⟩) ss.length cap] w fun e w' => e = .returned (.tuple #[]) ∧ ∃ n os, w' = grow (putRow encStr (Sort.ahead w n) blk off (ss.mergeSort fun x y => decide (x ≤ y)).toArray) os)
 {id n : Nat} {T : TypeId} {cp : Option Nat} {ss : List Bz} (ho : H[id]? = some (.cells T (Ba ss) false)) (hn : n = ss.length) (hs : ss.length < 1000000) :
 A1 P W0 f [.hsl 1 id 0 n cp] H (.tup []) (H.set id (.cells T (Ba (ss.mergeSort fun x y => decide (x ≤ y))) false)) := by
 subst hn
 refine ⟨hf, fun F bs w cargs hh hr => ?_⟩
 simp only [A5, Rep] at hr
 obtain ⟨_, _, rfl, ⟨_, hp⟩, rfl⟩ := hr
 unfold Bn at hp
 rw [ho] at hp
 obtain ⟨_, hp⟩ := hp
 obtain ⟨b, c, hb, rfl, _⟩ := hp (by simp)
 obtain ⟨vs, rest, fr, h1, h2, h3⟩ := hh.obj id _ b ho hb
 obtain rfl := Rt h2
 have hlow := hh.low b (mGe hb)
 refine Calls.mono (hc b 0 c ss w (Tq h1 h3) hlow.2 (by omega)) ?_
 rintro e w' ⟨rfl, n, os, rfl⟩
 obtain ⟨k1, k2⟩ := A0c hh ho hb (ts := ss.mergeSort fun x y => decide (x ≤ y)) (by rw [List.length_mergeSort]) n os
 exact ⟨.tuple #[], bs, rfl, by simp only [Rep, A5]; exact ⟨[], rfl, rfl⟩, k1, k2⟩
theorem A2x {f : Nat} (hf : E1 P f)
 (hc : ∀ (blk off cap : Nat) (d : Array Bz) (w : World), Holds encStr w blk off d → d.size ≤ 9223372036854775807 → d.size ≤ cap →
  Calls P f #[.slice (some ⟨blk, off, none⟩) d.size cap] w fun e w' => e = .returned (.slice (some ⟨blk, off, none⟩) (Lib.compactUpTo d d.size).length cap) ∧ ∃ q, w' = putRow encStr (Sort.ahead w q) blk off (Lib.compactUpTo d d.size ++ List.replicate (d.size - (Lib.compactUpTo d d.size).length) []).toArray)
 {id n : Nat} {T : TypeId} {cp : Option Nat} {ss : List Bz} (ho : H[id]? = some (.cells T (Ba ss) false)) (hn : n = ss.length) (hs : ss.length < 1000000) (hle : (Lib.compactUpTo ss.toArray ss.length).length ≤ ss.length) :
 A1 P W0 f [.hsl 1 id 0 n cp] H (.hsl 1 id 0 (Lib.compactUpTo ss.toArray ss.length).length none) (H.set id (.cells T (Ba (Lib.compactUpTo ss.toArray ss.length ++ List.replicate (ss.length - (Lib.compactUpTo ss.toArray ss.length).length) [])) false)) := by
 subst hn
 refine ⟨hf, fun F bs w cargs hh hr => ?_⟩
 simp only [A5, Rep] at hr
 obtain ⟨_, _, rfl, ⟨_, hp⟩, rfl⟩ := hr
 unfold Bn at hp
 rw [ho] at hp
 obtain ⟨_, hp⟩ := hp
 obtain ⟨b, c, hb, rfl, hlc, _⟩ := hp (by simp)
 obtain ⟨vs, rest, fr, h1, h2, h3⟩ := hh.obj id _ b ho hb
 obtain rfl := Rt h2
 have hsz : ss.toArray.size = ss.length := by simp
 have hlen : (Lib.compactUpTo ss.toArray ss.length ++ List.replicate (ss.length - (Lib.compactUpTo ss.toArray ss.length).length) []).length = ss.length := by
  simp; omega
 refine Calls.mono (hc b 0 c ss.toArray w (Tq h1 h3) (by rw [hsz]; omega) (by rw [hsz]; omega)) ?_
 rintro e w' ⟨rfl, n, rfl⟩
 simp only [hsz] at *
 obtain ⟨k1, k2⟩ := A0c hh ho hb (ts := Lib.compactUpTo ss.toArray ss.length ++ List.replicate (ss.length - (Lib.compactUpTo ss.toArray ss.length).length) []) hlen n #[]
 rw [grow_empty] at k1 k2
 refine ⟨_, bs, rfl, ?_, k1, k2⟩
 have hid := (List.getElem?_eq_some_iff.1 ho).1
 simp only [Rep, Bn]
 rw [List.getElem?_set_self hid]
 refine ⟨⟨_, c, by omega, rfl⟩, ?_, fun _ => ⟨b, c, hb, rfl, by omega, by simp, by simp⟩⟩
 simp only [Ba, List.length_map, hlen]
 omega
end
end Go.Abs
namespace Go.Abs
open Go.Proofs Go.RowKit
abbrev cP (W : World) (f : FuncId) (x : List AVal) (H : Hz) (v : AVal) (H2 : Hz) : Prop := A1 Tryz.prog W f x H v H2
abbrev hGr (W : World) (G : List (Nat × AVal)) : Prop := Gr Tryz.prog W G
end Go.Abs
