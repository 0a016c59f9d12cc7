/- A part of the proof that tabula/tabulalaw25.PackTexts returns true for every input, each argument reading as it did (its card: the last text). No conditions of its own. -/
import Derived.Test.YtpjknnnomkkloaaGreatDoorPC
import Derived.Lib.TrimAscii
import Derived.Shelf.Strings.MapGrows
import Derived.Shelf.Unicode.DecodeSlow
import Derived.Lib.Join
import Derived.Sort.Grow
import Derived.Defers
import Derived.Recover
namespace Go.Abs
open Go.RowKit
def Bt {α : Type} : List Nat → List α → List α → List α
 | i :: is, o :: os, l => Bt is os (l.set i o)
 | _, _, l => l
theorem F2 {α : Type} : ∀ (is : List Nat) (os l : List α), (Bt is os l).length = l.length
 | [], _, _ => rfl
 | _ :: _, [], _ => rfl
 | i :: is, o :: os, l => by simp only [Bt]; rw [F2]; simp
theorem Ge {α : Type} : ∀ (is : List Nat) (os l : List α) (i : Nat), i ∉ is → (Bt is os l)[i]? = l[i]?
 | [], _, _, _, _ => rfl
 | _ :: _, [], _, _, _ => rfl
 | k :: is, o :: os, l, i, h => by
   simp only [List.mem_cons, not_or] at h
   simp only [Bt]
   rw [Ge is os _ i h.2, List.getElem?_set_ne (fun e => h.1 e.symm)]
theorem G6 {α : Type} : ∀ (is : List Nat) (os l : List α) (j i : Nat) (o : α), is.Nodup → is[j]? = some i → os[j]? = some o → i < l.length → (Bt is os l)[i]? = some o
 | [], _, _, _, _, _, _, h, _, _ => by simp at h
 | _ :: _, [], _, _, _, _, _, _, h, _ => by simp at h
 | k :: is, p :: os, l, 0, i, o, hn, h1, h2, hl => by
   simp only [List.getElem?_cons_zero, iS] at h1 h2
   subst h1; subst h2
   simp only [Bt]
   rw [Ge is os _ k (List.nodup_cons.1 hn).1, List.getElem?_set_self hl]
 | k :: is, p :: os, l, j + 1, i, o, hn, h1, h2, hl => by
   simp only [List.getElem?_cons_succ] at h1 h2
   simp only [Bt]
   exact G6 is os _ j i o (List.nodup_cons.1 hn).2 h1 h2 (by simpa using hl)
mutual
def ren (ρ : Nat → Nat) : AVal → AVal
 | .agg cs => .agg (Eg ρ cs)
 | .tup cs => .tup (Eg ρ cs)
 | .row k es => .row k (Eg ρ es)
 | .hsl k id off len cap => .hsl k (ρ id) off len cap
 | .ptr id off => .ptr (ρ id) off
 | .optr id off len => .optr (ρ id) off len
 | .eptr e off => .eptr (ren ρ e) off
 | .fn f a c => .fn f (Eg ρ a) (Eg ρ c)
 | .iface t x => .iface t (ren ρ x)
 | .bool b => .bool b
 | .int k n => .int k n
 | .str s => .str s
 | .nilSl => .nilSl
 | .emp => .emp
 | .nilPtr => .nilPtr
 | .nilFn => .nilFn
 | .nilMp => .nilMp
 | .nilIf => .nilIf
 | .mref id => .mref (ρ id)
def Eg (ρ : Nat → Nat) : List AVal → List AVal
 | [] => []
 | v :: r => ren ρ v :: Eg ρ r
end
theorem Be (ρ : Nat → Nat) : ∀ l, (Eg ρ l).length = l.length
 | [] => rfl
 | _ :: r => by simp [Eg, Be ρ r]
def D6 (ρ : Nat → Nat) : A2 → A2
 | .cells T cs op => .cells T (Eg ρ cs) op
 | .iter s p => .iter s p
 | .mp es => .mp es
 | .dead => .dead
theorem K2 {a b : Bool} (h : cond a b false = true) : a = true ∧ b = true := by cases a <;> simp_all
mutual
theorem I4 {ρ : Nat → Nat} : ∀ (a : AVal), blw 0 a = true → ren ρ a = a
 | .agg cs, h => by simp only [ren]; rw [Aq cs h]
 | .tup cs, h => by simp only [ren]; rw [Aq cs h]
 | .row k es, h => by simp only [ren]; rw [Aq es h]
 | .hsl _ _ _ _ _, h => by simp [blw, Nat.blt_eq] at h
 | .ptr _ _, h => by simp [blw, Nat.blt_eq] at h
 | .optr _ _ _, h => by simp [blw, Nat.blt_eq] at h
 | .mref _, h => by simp [blw, Nat.blt_eq] at h
 | .eptr e off, h => by simp only [ren]; rw [I4 e h]
 | .fn f a c, h => by
   obtain ⟨h1, h2⟩ := K2 h
   simp only [ren]; rw [Aq a h1, Aq c h2]
 | .iface t x, h => by simp only [ren]; rw [I4 x h]
 | .bool _, _ => rfl
 | .int _ _, _ => rfl
 | .str _, _ => rfl
 | .nilSl, _ => rfl
 | .emp, _ => rfl
 | .nilPtr, _ => rfl
 | .nilFn, _ => rfl
 | .nilMp, _ => rfl
 | .nilIf, _ => rfl
theorem Aq {ρ : Nat → Nat} : ∀ (l : List AVal), A8 0 l = true → Eg ρ l = l
 | [], _ => rfl
 | v :: r, h => by
   obtain ⟨h1, h2⟩ := K2 h
   simp only [Eg]; rw [I4 v h1, Aq r h2]
end
structure Sel (sel : List Nat) (m : Nat) (H0 H : Hz) (ρ : Nat → Nat) : Prop where
 nd : sel.Nodup
 len : sel.length = m
 len0 : H0.length = m
 rho : ∀ j, j < m → sel[j]? = some (ρ j)
 lt : ∀ i ∈ sel, i < H.length
 get : ∀ j o, H0[j]? = some o → H[ρ j]? = some (D6 ρ o)
section
variable {F F' : Nat → Prop} {bs bs0 : List Nat} {H H0 : Hz} {w : World} {ρ : Nat → Nat} {m : Nat}
theorem Ur {a b : Nat} (h : Nat.blt a b = true) : a < b := by simpa [Nat.blt_eq] using h
structure A14 (F F' : Nat → Prop) (bs bs0 : List Nat) (H H0 : Hz) (ρ : Nat → Nat) (m : Nat) : Prop where
 get : ∀ j, j < m → ∃ o, H0[j]? = some o ∧ H[ρ j]? = some (D6 ρ o)
 blk : ∀ j, j < m → bs0[j]? = bs[ρ j]?
 sub : ∀ b, b ∈ bs0 → b ∈ bs
 forb : ∀ b, F' b → F b ∨ b ∈ bs
theorem G4.down (h : A14 F F' bs bs0 H H0 ρ m) {a : Option Addr} {vs : List Value} {cap : Nat} (hr : G4 F bs w a vs cap) : G4 F' bs0 w a vs cap := by
 cases a with
 | none => exact hr
 | some a =>
   obtain ⟨h1, h2, h3⟩ := hr
   refine ⟨h1, h2, fun j u hj => ?_⟩
   obtain ⟨⟨hn, hnF⟩, hc⟩ := h3 j u hj
   refine ⟨⟨fun hm => hn (h.sub _ hm), fun hf => ?_⟩, hc⟩
   rcases h.forb _ hf with h' | h'
   · exact hnF h'
   · exact hn h'
mutual
theorem Rep.down (h : A14 F F' bs bs0 H H0 ρ m) : ∀ (a : AVal) (v : Value), blw m a = true → Rep F bs H w (ren ρ a) v → Rep F' bs0 H0 w a v
 | .agg cs, v, hb, hr => by simp only [ren, Rep] at hr ⊢; obtain ⟨vs, rfl, h2⟩ := hr; exact ⟨vs, rfl, A5.down h cs vs hb h2⟩
 | .tup cs, v, hb, hr => by simp only [ren, Rep] at hr ⊢; obtain ⟨vs, rfl, h2⟩ := hr; exact ⟨vs, rfl, A5.down h cs vs hb h2⟩
 | .row k es, v, hb, hr => by
   simp only [ren, Rep] at hr ⊢
   obtain ⟨a, cap, vs, h1, h2, h3, h4⟩ := hr
   exact ⟨a, cap, vs, by rw [h1, Be], A5.down h es vs hb h2, h3, h4.down h⟩
 | .hsl k id off len cap, v, hb, hr => by
   simp only [ren, Rep] at hr ⊢
   refine ⟨hr.1, ?_⟩
   have hid := Ur hb
   obtain ⟨o, ho, ho'⟩ := h.get id hid
   have h2 := hr.2
   unfold Bn at h2 ⊢
   rw [ho'] at h2
   rw [ho]
   cases o with
   | dead => trivial
   | iter s p => exact h2
   | mp es => exact h2
   | cells T cs op =>
     simp only [D6, Be] at h2
     obtain ⟨q1, q2⟩ := h2
     refine ⟨q1, fun hop => ?_⟩
     obtain ⟨b, c, r1, r2⟩ := q2 hop
     exact ⟨b, c, by rw [h.blk id hid]; exact r1, r2⟩
 | .ptr id off, v, hb, hr => by
   simp only [ren, Rep] at hr ⊢
   refine ⟨hr.1, ?_⟩
   have hid := Ur hb
   obtain ⟨o, ho, ho'⟩ := h.get id hid
   have h2 := hr.2
   unfold Dx at h2 ⊢
   rw [ho'] at h2
   rw [ho]
   cases o with
   | dead => trivial
   | iter s p => obtain ⟨b, r1, r2⟩ := h2; exact ⟨b, by rw [h.blk id hid]; exact r1, r2⟩
   | mp es => exact h2
   | cells T cs op =>
     cases op with
     | false => obtain ⟨b, r1, r2⟩ := h2; exact ⟨b, by rw [h.blk id hid]; exact r1, r2⟩
     | true => exact h2
 | .mref id, v, hb, hr => by
   simp only [ren, Rep] at hr ⊢
   refine ⟨hr.1, ?_⟩
   have hid := Ur hb
   obtain ⟨o, ho, ho'⟩ := h.get id hid
   have h2 := hr.2
   unfold Fb at h2 ⊢
   rw [ho'] at h2
   rw [ho]
   cases o with
   | dead => trivial
   | iter s p => exact h2
   | cells T cs op => exact h2
   | mp es => obtain ⟨b, r1, r2⟩ := h2; exact ⟨b, by rw [h.blk id hid]; exact r1, r2⟩
 | .optr id off len, v, hb, hr => by
   simp only [ren, Rep] at hr ⊢
   refine ⟨hr.1, ?_⟩
   have hid := Ur hb
   obtain ⟨o, ho, ho'⟩ := h.get id hid
   have h2 := hr.2
   unfold Dy at h2 ⊢
   rw [ho'] at h2
   rw [ho]
   cases o with
   | dead => trivial
   | iter s p => exact h2
   | mp es => exact h2
   | cells T cs op =>
     cases op with
     | true =>
       simp only [D6, Be] at h2
       refine ⟨h2.1, fun hl => ?_⟩
       obtain ⟨b, r1, r2⟩ := h2.2 hl
       exact ⟨b, by rw [h.blk id hid]; exact r1, r2⟩
     | false => exact h2
 | .eptr e off, v, hb, hr => by
   simp only [ren, Rep] at hr ⊢
   obtain ⟨b, base, u, h1, h2, h3, h4, h5⟩ := hr
   refine ⟨b, base, u, h1, Rep.down h e u hb h2, ⟨fun hm => h3.1 (h.sub _ hm), fun hf => ?_⟩, h4, h5⟩
   rcases h.forb _ hf with h' | h'
   · exact h3.2 h'
   · exact h3.1 h'
 | .fn f a c, v, hb, hr => by
   simp only [ren, Rep] at hr ⊢
   obtain ⟨h1, h2⟩ := K2 hb
   obtain ⟨fs, cs, r1, r2, r3⟩ := hr
   exact ⟨fs, cs, r1, A5.down h a fs h1 r2, A5.down h c cs h2 r3⟩
 | .iface t x, v, hb, hr => by
   simp only [ren, Rep] at hr ⊢
   obtain ⟨u, h1, h2⟩ := hr
   exact ⟨u, h1, Rep.down h x u hb h2⟩
 | .bool _, v, _, hr => by simpa only [ren, Rep] using hr
 | .int _ _, v, _, hr => by simpa only [ren, Rep] using hr
 | .str _, v, _, hr => by simpa only [ren, Rep] using hr
 | .nilSl, v, _, hr => by simpa only [ren, Rep] using hr
 | .emp, v, _, hr => by simpa only [ren, Rep] using hr
 | .nilPtr, v, _, hr => by simpa only [ren, Rep] using hr
 | .nilFn, v, _, hr => by simpa only [ren, Rep] using hr
 | .nilMp, v, _, hr => by simpa only [ren, Rep] using hr
 | .nilIf, v, _, hr => by simpa only [ren, Rep] using hr
theorem A5.down (h : A14 F F' bs bs0 H H0 ρ m) : ∀ (az : List AVal) (vs : List Value), A8 m az = true → A5 F bs H w (Eg ρ az) vs → A5 F' bs0 H0 w az vs
 | [], vs, _, hr => by simpa only [Eg, A5] using hr
 | a :: az, vs, hb, hr => by
   simp only [Eg, A5] at hr ⊢
   obtain ⟨h1, h2⟩ := K2 hb
   obtain ⟨u, us, rfl, r1, r2⟩ := hr
   exact ⟨u, us, rfl, Rep.down h a u h1 r1, A5.down h az us h2 r2⟩
end
structure Up (F F' : Nat → Prop) (bs bs0 : List Nat) (H H0 : Hz) (ρ : Nat → Nat) : Prop where
 get : ∀ j o, H0[j]? = some o → H[ρ j]? = some (D6 ρ o)
 blk : ∀ j b, bs0[j]? = some b → bs[ρ j]? = some b
 out : ∀ b, b ∉ bs0 → ¬ F' b → b ∉ bs ∧ ¬ F b
mutual
theorem Rep.up (h : Up F F' bs bs0 H H0 ρ) : ∀ (a : AVal) (v : Value), Rep F' bs0 H0 w a v → Rep F bs H w (ren ρ a) v
 | .agg cs, v, hr => by simp only [ren, Rep] at hr ⊢; obtain ⟨vs, rfl, h2⟩ := hr; exact ⟨vs, rfl, A5.up h cs vs h2⟩
 | .tup cs, v, hr => by simp only [ren, Rep] at hr ⊢; obtain ⟨vs, rfl, h2⟩ := hr; exact ⟨vs, rfl, A5.up h cs vs h2⟩
 | .row k es, v, hr => by
   simp only [ren, Rep] at hr ⊢
   obtain ⟨a, cap, vs, h1, h2, h3, h4⟩ := hr
   refine ⟨a, cap, vs, by rw [h1, Be], A5.up h es vs h2, h3, ?_⟩
   cases a with
   | none => exact h4
   | some a =>
     obtain ⟨q1, q2, q3⟩ := h4
     refine ⟨q1, q2, fun j u hj => ?_⟩
     obtain ⟨⟨hn, hnF⟩, hc⟩ := q3 j u hj
     exact ⟨h.out _ hn hnF, hc⟩
 | .hsl k id off len cap, v, hr => by
   simp only [ren, Rep] at hr ⊢
   refine ⟨hr.1, ?_⟩
   have h2 := hr.2
   unfold Bn at h2 ⊢
   cases ho : H0[id]? with
   | none => rw [ho] at h2; exact h2.elim
   | some o =>
     rw [ho] at h2
     rw [h.get id o ho]
     cases o with
     | dead => trivial
     | iter s p => exact h2
     | mp es => exact h2
     | cells T cs op =>
       simp only [D6, Be]
       obtain ⟨q1, q2⟩ := h2
       refine ⟨q1, fun hop => ?_⟩
       obtain ⟨b, c, r1, r2⟩ := q2 hop
       exact ⟨b, c, h.blk id b r1, r2⟩
 | .ptr id off, v, hr => by
   simp only [ren, Rep] at hr ⊢
   refine ⟨hr.1, ?_⟩
   have h2 := hr.2
   unfold Dx at h2 ⊢
   cases ho : H0[id]? with
   | none => rw [ho] at h2; exact h2.elim
   | some o =>
     rw [ho] at h2
     rw [h.get id o ho]
     cases o with
     | dead => trivial
     | iter s p => obtain ⟨b, r1, r2⟩ := h2; exact ⟨b, h.blk id b r1, r2⟩
     | mp es => exact h2
     | cells T cs op =>
       cases op with
       | false => obtain ⟨b, r1, r2⟩ := h2; exact ⟨b, h.blk id b r1, r2⟩
       | true => exact h2
 | .mref id, v, hr => by
   simp only [ren, Rep] at hr ⊢
   refine ⟨hr.1, ?_⟩
   have h2 := hr.2
   unfold Fb at h2 ⊢
   cases ho : H0[id]? with
   | none => rw [ho] at h2; exact h2.elim
   | some o =>
     rw [ho] at h2
     rw [h.get id o ho]
     cases o with
     | dead => trivial
     | iter s p => exact h2
     | cells T cs op => exact h2
     | mp es => obtain ⟨b, r1, r2⟩ := h2; exact ⟨b, h.blk id b r1, r2⟩
 | .optr id off len, v, hr => by
   simp only [ren, Rep] at hr ⊢
   refine ⟨hr.1, ?_⟩
   have h2 := hr.2
   unfold Dy at h2 ⊢
   cases ho : H0[id]? with
   | none => rw [ho] at h2; exact h2.elim
   | some o =>
     rw [ho] at h2
     rw [h.get id o ho]
     cases o with
     | dead => trivial
     | iter s p => exact h2
     | mp es => exact h2
     | cells T cs op =>
       cases op with
       | true =>
         simp only [D6, Be]
         refine ⟨h2.1, fun hl => ?_⟩
         obtain ⟨b, r1, r2⟩ := h2.2 hl
         exact ⟨b, h.blk id b r1, r2⟩
       | false => exact h2
 | .eptr e off, v, hr => by
   simp only [ren, Rep] at hr ⊢
   obtain ⟨b, base, u, h1, h2, h3, h4, h5⟩ := hr
   exact ⟨b, base, u, h1, Rep.up h e u h2, h.out _ h3.1 h3.2, h4, h5⟩
 | .fn f a c, v, hr => by
   simp only [ren, Rep] at hr ⊢
   obtain ⟨fs, cs, r1, r2, r3⟩ := hr
   exact ⟨fs, cs, r1, A5.up h a fs r2, A5.up h c cs r3⟩
 | .iface t x, v, hr => by
   simp only [ren, Rep] at hr ⊢
   obtain ⟨u, h1, h2⟩ := hr
   exact ⟨u, h1, Rep.up h x u h2⟩
 | .bool _, v, hr => by simpa only [ren, Rep] using hr
 | .int _ _, v, hr => by simpa only [ren, Rep] using hr
 | .str _, v, hr => by simpa only [ren, Rep] using hr
 | .nilSl, v, hr => by simpa only [ren, Rep] using hr
 | .emp, v, hr => by simpa only [ren, Rep] using hr
 | .nilPtr, v, hr => by simpa only [ren, Rep] using hr
 | .nilFn, v, hr => by simpa only [ren, Rep] using hr
 | .nilMp, v, hr => by simpa only [ren, Rep] using hr
 | .nilIf, v, hr => by simpa only [ren, Rep] using hr
theorem A5.up (h : Up F F' bs bs0 H H0 ρ) : ∀ (az : List AVal) (vs : List Value), A5 F' bs0 H0 w az vs → A5 F bs H w (Eg ρ az) vs
 | [], vs, hr => by simpa only [Eg, A5] using hr
 | a :: az, vs, hr => by
   simp only [Eg, A5] at hr ⊢
   obtain ⟨u, us, rfl, r1, r2⟩ := hr
   exact ⟨u, us, rfl, Rep.up h a u r1, A5.up h az us r2⟩
end
theorem Np {l : List Nat} (h : ∀ (i j b : Nat), i < j → l[i]? = some b → l[j]? = some b → False) : l.Nodup :=
 List.pairwise_iff_getElem.2 fun i j hi hj hij e => h i j l[j] hij (by rw [gGe hi, e]) (gGe hj)
theorem A1.ren {P : Program} {W0 : World} {f : FuncId} {args : List AVal} {H H0 H0' : Hz} {v : AVal} (sel : List Nat) (ρ : Nat → Nat) (hs : Sel sel H0.length H0 H ρ) (hbH : B2 H0.length H0 = true) (hba : A8 H0.length args = true)
 (hl : H0'.length = H0.length) (hc : A1 P W0 f args H0 v H0') : A1 P W0 f (Eg ρ args) H (ren ρ v) (Bt sel (H0'.map (D6 ρ)) H) := by
 refine ⟨hc.1, fun F bs w cargs hh hr => ?_⟩
 have hbl : bs.length = H.length := hh.len
 let bs0 : List Nat := sel.map fun i => bs.getD i 0
 have hbs0 : ∀ j i, sel[j]? = some i → bs0[j]? = bs[i]? := fun j i hj => by
  have hi : i < bs.length := by rw [hbl]; exact hs.lt i (mGe hj)
  show (sel.map fun i => bs.getD i 0)[j]? = bs[i]?
  rw [List.getElem?_map, hj]
  simp [List.getD_eq_getElem?_getD, gGe hi]
 have hbsl : bs0.length = H0.length := by show (sel.map _).length = _; rw [List.length_map, hs.len]
 have hsub : ∀ b, b ∈ bs0 → b ∈ bs := fun b hb => by
  obtain ⟨j, hj⟩ := List.getElem?_of_mem hb
  have hjl : j < sel.length := by rw [hs.len, ← hbsl]; exact (List.getElem?_eq_some_iff.1 hj).1
  rw [hbs0 j sel[j] (gGe hjl)] at hj
  exact mGe hj
 let F' : Nat → Prop := fun b => F b ∨ (b ∈ bs ∧ b ∉ bs0)
 have hdown : A14 F F' bs bs0 H H0 ρ H0.length := by
  refine ⟨fun j hj => ?_, fun j hj => hbs0 j (ρ j) (hs.rho j hj), hsub, fun b hb => hb.imp id And.left⟩
  exact ⟨H0[j], gGe hj, hs.get j _ (gGe hj)⟩
 have hnd0 : bs0.Nodup := by
  refine Np fun i j b hij h1 h2 => ?_
  have hi' : i < sel.length := by rw [hs.len, ← hbsl]; exact (List.getElem?_eq_some_iff.1 h1).1
  have hj' : j < sel.length := by rw [hs.len, ← hbsl]; exact (List.getElem?_eq_some_iff.1 h2).1
  rw [hbs0 i _ (gGe hi')] at h1
  rw [hbs0 j _ (gGe hj')] at h2
  have := Cm hh.nodup h1 h2
  have h2 := Cm hs.nd (i := i) (j := j) (gGe hi') (by rw [gGe hj', this])
  omega
 have hh0 : A7 W0 F' bs0 H0 w := by
  refine ⟨hbsl, hh.base, fun b hb => hh.low b (hsub b hb), hnd0, fun b hb => ?_, fun i o b hi hb => ?_⟩
  · rcases hb with hb | ⟨hb, hn⟩
    · obtain ⟨q1, q2, q3⟩ := hh.forb b hb
      exact ⟨q1, q2, fun hm => q3 (hsub b hm)⟩
    · exact ⟨(hh.low b hb).1, (hh.low b hb).2, hn⟩
  · have hil : i < H0.length := (List.getElem?_eq_some_iff.1 hi).1
    have hb' : bs[ρ i]? = some b := by rw [← hdown.blk i hil]; exact hb
    have ho := hh.obj (ρ i) (D6 ρ o) b (hs.get i o hi) hb'
    cases o with
    | dead => trivial
    | iter s p => exact ho
    | mp es => exact ho
    | cells T cs op =>
      have hcs := Kz hbH hi
      cases op with
      | false => obtain ⟨vs, rest, fr, q1, q2, q3⟩ := ho; exact ⟨vs, rest, fr, q1, A5.down hdown cs vs hcs q2, q3⟩
      | true => obtain ⟨vs, rest, fr, q1, q2, q3⟩ := ho; exact ⟨vs, rest, fr, q1, A5.down hdown cs vs hcs q2, q3⟩
 refine Calls.mono (hc.2 F' bs0 w cargs hh0 (A5.down hdown args cargs hba hr)) fun e w' he => ?_
 obtain ⟨cv, bs0', rfl, hv, hh', he'⟩ := he
 have hl0' : bs0'.length = sel.length := by rw [hh'.len, hl, hs.len]
 have hsl : sel.length = H0'.length := by rw [hs.len, hl]
 let H' := Bt sel (H0'.map (D6 ρ)) H
 let bs' := Bt sel bs0' bs
 have hH'l : H'.length = H.length := F2 _ _ _
 have hbs'l : bs'.length = bs.length := F2 _ _ _
 have inj : ∀ (j : Nat), j < H0.length → sel[j]? = some (ρ j) := hs.rho
 have getO : ∀ j o, H0'[j]? = some o → H'[ρ j]? = some (D6 ρ o) := fun j o ho => by
  have hj : j < H0.length := by rw [← hl]; exact (List.getElem?_eq_some_iff.1 ho).1
  exact G6 sel _ H j (ρ j) _ hs.nd (inj j hj) (by rw [List.getElem?_map, ho]; rfl) (hs.lt _ (mGe (inj j hj)))
 have getB : ∀ j b, bs0'[j]? = some b → bs'[ρ j]? = some b := fun j b hb => by
  have hj : j < H0.length := by rw [← hs.len, ← hl0']; exact (List.getElem?_eq_some_iff.1 hb).1
  exact G6 sel _ bs j (ρ j) _ hs.nd (inj j hj) hb (by rw [hbl]; exact hs.lt _ (mGe (inj j hj)))
 have noO : ∀ i, i ∉ sel → H'[i]? = H[i]? := fun i hi => Ge sel _ H i hi
 have noB : ∀ i, i ∉ sel → bs'[i]? = bs[i]? := fun i hi => Ge sel _ bs i hi
 have selj : ∀ i, i ∈ sel → ∃ j, j < H0.length ∧ ρ j = i ∧ sel[j]? = some i := fun i hi => by
  obtain ⟨j, hj⟩ := List.getElem?_of_mem hi
  have hjl : j < H0.length := by rw [← hs.len]; exact (List.getElem?_eq_some_iff.1 hj).1
  have := inj j hjl
  rw [this] at hj
  injection hj with hj
  exact ⟨j, hjl, hj, by rw [this, hj]⟩
 have getB' : ∀ i b, bs'[i]? = some b → (i ∉ sel ∧ bs[i]? = some b) ∨ ∃ j, ρ j = i ∧ sel[j]? = some i ∧ bs0'[j]? = some b := fun i b hb => by
  by_cases hi : i ∈ sel
  · obtain ⟨j, hj, he, hsj⟩ := selj i hi
    right
    have hjl : j < bs0'.length := by rw [hl0', hs.len]; exact hj
    have := getB j _ (gGe hjl)
    rw [he, hb] at this
    injection this with this
    exact ⟨j, he, hsj, by rw [gGe hjl, this]⟩
  · exact .inl ⟨hi, by rw [← noB i hi]; exact hb⟩
 have notin : ∀ i b, i ∉ sel → bs[i]? = some b → b ∉ bs0 := fun i b hi hb hm => by
  obtain ⟨j, hj⟩ := List.getElem?_of_mem hm
  have hjl : j < sel.length := by rw [hs.len, ← hbsl]; exact (List.getElem?_eq_some_iff.1 hj).1
  rw [hbs0 j sel[j] (gGe hjl)] at hj
  have := Cm hh.nodup hb hj
  exact hi (this ▸ List.getElem_mem hjl)
 have memB' : ∀ b, b ∈ bs' → (b ∈ bs ∧ b ∉ bs0) ∨ b ∈ bs0' := fun b hb => by
  obtain ⟨i, hi⟩ := List.getElem?_of_mem hb
  rcases getB' i b hi with ⟨h1, h2⟩ | ⟨j, _, _, h3⟩
  · exact .inl ⟨mGe h2, notin i b h1 h2⟩
  · exact .inr (mGe h3)
 have hup : Up F F' bs' bs0' H' H0' ρ := by
  refine ⟨getO, getB, fun b hb hf => ⟨fun hm => ?_, fun hF => hf (.inl hF)⟩⟩
  rcases memB' b hm with h1 | h1
  · exact hf (.inr h1)
  · exact hb h1
 have hext : Ext bs H w bs' H' w' := by
  refine ⟨he'.size, fun k hk hn => he'.block k hk fun hm => hn (hsub k hm), fun k hk => ?_, fun i o ho => ?_⟩
  · rcases memB' k hk with h1 | h1
    · exact .inl h1.1
    · rcases he'.new k h1 with h2 | h2
      · exact .inl (hsub k h2)
      · exact .inr h2
  · by_cases hi : i ∈ sel
    · obtain ⟨j, hj, rfl, hsj⟩ := selj i hi
      have ho0 := gGe hj
      have hoo := hs.get j _ ho0
      rw [ho] at hoo
      injection hoo with hoo
      obtain ⟨o', hj', hx⟩ := he'.obj j _ ho0
      refine ⟨D6 ρ o', getO j o' hj', ?_⟩
      have hbj : bs0[j]? = bs[ρ j]? := hbs0 j _ hsj
      have hbj' : bs0'[j]? = bs'[ρ j]? := by
       have hjl : j < bs0'.length := by rw [hl0', hs.len]; exact hj
       rw [gGe hjl, getB j _ (gGe hjl)]
      rw [hoo]
      cases hc0 : H0[j] with
      | dead => rw [hc0] at hx; simp only [B0] at hx; subst hx; rfl
      | iter s p =>
        rw [hc0] at hx
        rcases hx with rfl | ⟨s', p', rfl, hb⟩
        · exact .inl rfl
        · exact .inr ⟨s', p', rfl, by rw [← hbj', ← hbj]; exact hb⟩
      | mp es =>
        rw [hc0] at hx
        rcases hx with rfl | ⟨es', rfl, hb⟩
        · exact .inl rfl
        · exact .inr ⟨es', rfl, by rw [← hbj', ← hbj]; exact hb⟩
      | cells T cs op =>
        rw [hc0] at hx
        cases op with
        | false =>
          rcases hx with rfl | ⟨T', cs', rfl, h1, hb⟩
          · exact .inl rfl
          · exact .inr ⟨T', _, rfl, by rw [Be, Be, h1], by rw [← hbj', ← hbj]; exact hb⟩
        | true =>
          rcases hx with rfl | ⟨T', cs', rfl, h1⟩
          · exact .inl rfl
          · refine .inr ⟨T', _, rfl, ?_⟩
            rw [Be, Be, ← hbj', ← hbj]
            exact h1
    · refine ⟨o, by rw [noO i hi]; exact ho, ?_⟩
      have hb := noB i hi
      have hz : ∀ b, bs[i]? = some b → Bv w' b = Bv w b := fun b hb' => by
       unfold Bv
       rw [he'.block b (hh.low b (mGe hb')).2 (notin i b hi hb')]
      cases o with
      | dead => rfl
      | iter s p => exact .inr ⟨s, p, rfl, hb⟩
      | mp es => exact .inr ⟨es, rfl, hb⟩
      | cells T cs op =>
        cases op with
        | false => exact .inr ⟨T, cs, rfl, rfl, hb⟩
        | true => exact .inr ⟨T, cs, rfl, .inr ⟨rfl, hb, hz⟩⟩
 refine ⟨cv, bs', rfl, Rep.up hup v cv hv, ?_, hext⟩
 refine ⟨by rw [hbs'l, hbl, hH'l], hh'.base, fun b hb => ?_, ?_, fun b hb => ?_, fun i o b hi hb => ?_⟩
 · rcases memB' b hb with h1 | h1
   · exact ⟨(hh.low b h1.1).1, nLl (hh.low b h1.1).2 he'.size⟩
   · exact hh'.low b h1
 · refine Np fun i j b hij e hb => ?_
   rcases getB' i b e with ⟨h1, h2⟩ | ⟨i', h1, h2, h3⟩ <;> rcases getB' j b hb with ⟨k1, k2⟩ | ⟨j', k1, k2, k3⟩
   · have := Cm hh.nodup h2 k2; omega
   · exact (hh'.forb b (.inr ⟨mGe h2, notin i b h1 h2⟩)).2.2 (mGe k3)
   · exact (hh'.forb b (.inr ⟨mGe k2, notin j b k1 k2⟩)).2.2 (mGe h3)
   · have := Cm hh'.nodup h3 k3
     subst this
     omega
 · obtain ⟨q1, q2, q3⟩ := hh'.forb b (.inl hb)
   refine ⟨q1, q2, fun hm => ?_⟩
   rcases memB' b hm with h1 | h1
   · exact (hh.forb b hb).2.2 h1.1
   · exact q3 h1
 · rcases getB' i b hb with ⟨h1, h2⟩ | ⟨j, rfl, h2, h3⟩
   · rw [noO i h1] at hi
     exact (hh.obj i o b hi h2).ext hext (he'.block b (hh.low b (mGe h2)).2 (notin i b h1 h2))
   · have hjl : j < H0'.length := by rw [← hsl]; exact (List.getElem?_eq_some_iff.1 h2).1
     have h4 := getO j _ (gGe hjl)
     rw [hi] at h4
     injection h4 with h4
     have h5 := hh'.obj j _ b (gGe hjl) h3
     rw [h4]
     cases hc0 : H0'[j] with
     | dead => trivial
     | iter s p => rw [hc0] at h5; exact h5
     | mp es => rw [hc0] at h5; exact h5
     | cells T cs op =>
       rw [hc0] at h5
       cases op with
       | false => obtain ⟨vs, rest, fr, q1, q2, q3⟩ := h5; exact ⟨vs, rest, fr, q1, A5.up hup cs vs q2, q3⟩
       | true => obtain ⟨vs, rest, fr, q1, q2, q3⟩ := h5; exact ⟨vs, rest, fr, q1, A5.up hup cs vs q2, q3⟩
theorem A1.pure {P : Program} {W0 : World} {f : FuncId} {args : List AVal} {v : AVal} (ha : A8 0 args = true) (hv : blw 0 v = true) (hc : A1 P W0 f args [] v []) (H : Hz) : A1 P W0 f args H v H := by
 have h := A1.ren (H := H) [] id ⟨List.nodup_nil, rfl, rfl, fun j hj => by simp at hj, fun i hi => by simp at hi, fun j o ho => by simp at ho⟩ (H0 := []) rfl ha rfl hc
 rw [Aq args ha, I4 v hv] at h
 exact h
end
section
variable {P : Program} {W0 : World} {G : List (Nat × AVal)} {l : List (Nat × AVal)} {H H' : Hz} {n : Nat} {K : St → Prop} {r : List AOper}
theorem lB {d : Nat} {op : AOp} {b : Bool} {side : List (Int × Int)} (h : aop G ⟨.al l, H, n⟩ op = some (.val (.bool b) H' side)) (hd : (Nat.blt d n && Nat.blt d 4094) = true) (hs : Af side)
 (k1 : b = true → Ea P W0 G r ⟨.al ((d, .bool true) :: l), H', n⟩ K) (k2 : b = false → Ea P W0 G r ⟨.al ((d, .bool false) :: l), H', n⟩ K) : Ea P W0 G (⟨some d, none, op⟩ :: r) ⟨.al l, H, n⟩ K := by
 cases b
 · exact lVal h hd hs (k2 rfl)
 · exact lVal h hd hs (k1 rfl)
theorem qGY {dst : Option Nat} {op : AOp} {t : Nat} {want : Bool} (h : lk t l = some (.bool want)) (k : Bi P W0 G (⟨dst, none, op⟩ :: r) ⟨.al l, H, n⟩ K) : Bi P W0 G (⟨dst, some (t, want), op⟩ :: r) ⟨.al l, H, n⟩ K :=
 A32 h (fun _ => k) (fun e => by cases want <;> cases e)
theorem qGN {d : Nat} {op : AOp} {t : Nat} {want : Bool} (h : lk t l = some (.bool (!want))) (hd : (Nat.blt d n && Nat.blt d 4094) = true) (k : Bi P W0 G r ⟨.al ((d, .tup []) :: l), H, n⟩ K) : Bi P W0 G (⟨some d, some (t, want), op⟩ :: r) ⟨.al l, H, n⟩ K :=
 A32 h (fun e => by cases want <;> cases e) (fun _ => B1 rfl hd trivial k)
end
section
variable {P : Program} {W0 : World} {G : List (Nat × AVal)} {s : St} {K : Am → St → Prop}
theorem ExA.condT (hg : Gr P W0 G) {c : AOpd} {x y : ACode} (hv : ev G s c = some (.bool true)) (h : ExA P W0 x s K) : ExA P W0 (.cond c x y) s K := ExA.cond hg hv (fun _ => h) (fun e => by cases e)
theorem ExA.condF (hg : Gr P W0 G) {c : AOpd} {x y : ACode} (hv : ev G s c = some (.bool false)) (h : ExA P W0 y s K) : ExA P W0 (.cond c x y) s K := ExA.cond hg hv (fun e => by cases e) (fun _ => h)
end
theorem R9 {α : Type} {l : List α} {i : Nat} {x : α} (h : l[i]? = some x) : l.set i x = l := by
 apply List.ext_getElem?
 intro k
 by_cases hk : i = k
 · subst hk; rw [List.getElem?_set_self (List.getElem?_eq_some_iff.1 h).1, h]
 · rw [List.getElem?_set_ne hk]
theorem w64 {x : Int} (h1 : -9223372036854775808 ≤ x) (h2 : x ≤ 9223372036854775807) : IntKind.i64.wrap x = x := by
 rw [IntKind.wrap_i64]; omega
section
variable {P : Program} {W0 : World} {G : List (Nat × AVal)} {l : List (Nat × AVal)} {H : Hz} {n : Nat} {K : St → Prop} {r : List AOper}
end
theorem Gn {a b : Nat} (h : a < b) : Nat.blt a b = true := by simpa [Nat.blt_eq] using h
theorem Xx {a b : Nat} (h : ¬ a < b) : Nat.blt a b = false := by
 cases hq : Nat.blt a b with
 | false => rfl
 | true => exact absurd (by simpa [Nat.blt_eq] using hq) h
section
variable {P : Program} {W0 : World} {G : List (Nat × AVal)}
variable {l : List (Nat × AVal)} {H : Hz} {n : Nat} {K : St → Prop} {r : List AOper}
theorem qBk {d : Nat} {op : AOp} {b c : Bool} (h : aop G ⟨.al l, H, n⟩ op = some (.val (.bool b) H [])) (hd : (Nat.blt d n && Nat.blt d 4094) = true) (hb : b = c) (k : Bi P W0 G r ⟨.al ((d, .bool c) :: l), H, n⟩ K) : Bi P W0 G (⟨some d, none, op⟩ :: r) ⟨.al l, H, n⟩ K := by
 subst hb; exact B1 h hd trivial k
theorem lKv {d : Nat} {op : AOp} {v v0 : AVal} {H' : Hz} {side : List (Int × Int)} (h : aop G ⟨.al l, H, n⟩ op = some (.val v0 H' side)) (hd : (Nat.blt d n && Nat.blt d 4094) = true) (hs : Af side) (hv : v0 = v) (k : Ea P W0 G r ⟨.al ((d, v) :: l), H', n⟩ K) : Ea P W0 G (⟨some d, none, op⟩ :: r) ⟨.al l, H, n⟩ K := by
 subst hv; exact lVal h hd hs k
theorem qKv {d : Nat} {op : AOp} {v v0 : AVal} {side : List (Int × Int)} (h : aop G ⟨.al l, H, n⟩ op = some (.val v0 H side)) (hd : (Nat.blt d n && Nat.blt d 4094) = true) (hs : Af side) (hv : v0 = v) (k : Bi P W0 G r ⟨.al ((d, v) :: l), H, n⟩ K) : Bi P W0 G (⟨some d, none, op⟩ :: r) ⟨.al l, H, n⟩ K := by
 subst hv; exact B1 h hd hs k
end
def FzV (H : Hz) (n : Nat) (v2 v : AVal) : Prop := (∃ k, frz H n k v2 = some v) ∨ (v2 = .nilSl ∧ ∃ k, v = .row k [])
theorem fzv_ok {W0 : World} {F : Nat → Prop} {bs : List Nat} {H : Hz} {w : World} (hh : A7 W0 F bs H w) {n : Nat} {v2 v : AVal} {x : Value} (hr : Rep F bs H w v2 x) (h : FzV H n v2 v) : Rep F (bs.take n) (H.take n) w v x := by
 rcases h with ⟨k, h⟩ | ⟨rfl, k, rfl⟩
 · exact Ol hh k v2 x v hr h
 · simp only [Rep] at hr
   subst hr
   simp only [Rep, A5]
   exact ⟨none, 0, [], rfl, rfl, by simp, rfl, rfl⟩
structure Fz (m : Nat) (s1 s2 : St) : Prop where
 n : s1.n = s2.n
 H : ∃ k, m ≤ k ∧ s1.H = s2.H.take k ∧ B2 k (s2.H.take k) = true ∧ ∀ t v, s1.env.get t = some v → ∃ v2, s2.env.get t = some v2 ∧ FzV s2.H k v2 v
section
variable {P : Program} {W0 : World} {G : List (Nat × AVal)}
theorem RS.fz {F : Nat → Prop} {bs : List Nat} {s1 s2 : St} {a : Act} {w : World} (hs : RS W0 F bs s2 a w) {m : Nat} (hf : Fz m s1 s2) {bs0 : List Nat} {H0 : Hz} {w0 : World} (he : Ext bs0 H0 w0 bs s2.H w) (hm : H0.length = m) :
 ∃ bs', RS W0 F bs' s1 a w ∧ Ext bs0 H0 w0 bs' s1.H w := by
 obtain ⟨hn, k, hmk, hH, hb, henv⟩ := hf
 refine ⟨bs.take k, ⟨by rw [hH]; exact hs.heap.take hb, by rw [hs.size, hn], fun t v hv => ?_⟩, ?_⟩
 · obtain ⟨v2, h1, h2⟩ := henv t v hv
   rw [hH]
   exact fzv_ok hs.heap (hs.env t v2 h1) h2
 · rw [hH]; exact he.takeN (by omega)
def ExM (P : Program) (W0 : World) (m : Nat) (a : ACode) (s : St) (K : Am → St → Prop) : Prop :=
 ∀ c, Bc P c = some a → ∀ (F : Nat → Prop) (bs : List Nat) (x : Act) (w : World), RS W0 F bs s x w → ∀ (bs0 : List Nat) (H0 : Hz) (w0 : World), H0.length = m → Ext bs0 H0 w0 bs s.H w → ∀ Q : Exit → Act → World → Prop,
  (∀ e s' bs' a' w', K e s' → RS W0 F bs' s' a' w' → Ext bs0 H0 w0 bs' s'.H w' → a'.defers = x.defers → Q (convE e) a' w') → c.wp P Q x w
theorem ExM.of {m : Nat} {a : ACode} {s : St} {K : Am → St → Prop} (h : ExA P W0 a s K) : ExM P W0 m a s K := fun c hc F bs x w hs _ _ _ _ he Q hq =>
 h c hc F bs x w hs Q fun e s' bs' a' w' h1 h2 h3 h4 => hq e s' bs' a' w' h1 h2 (he.trans h3) h4
theorem ExM.mono {m : Nat} {a : ACode} {s : St} {K K' : Am → St → Prop} (h : ExM P W0 m a s K) (hk : ∀ e s', K e s' → K' e s') : ExM P W0 m a s K' := fun c hc F bs x w hs bs0 H0 w0 hm he Q hq =>
 h c hc F bs x w hs bs0 H0 w0 hm he Q fun e s' bs' a' w' h1 => hq e s' bs' a' w' (hk e s' h1)
theorem ExM.fz {m : Nat} {a : ACode} {s1 s2 : St} {K : Am → St → Prop} (hf : Fz m s1 s2) (h : ExM P W0 m a s1 K) : ExM P W0 m a s2 K := fun c hc F bs x w hs bs0 H0 w0 hm he Q hq => by
 obtain ⟨bs', h1, h2⟩ := hs.fz hf he hm
 exact h c hc F bs' x w h1 bs0 H0 w0 hm h2 Q hq
theorem ExM.seq {m : Nat} {x y : ACode} {s : St} {K : Am → St → Prop} (h : ExM P W0 m x s fun e s' => e.then s' (fun s' => ExM P W0 m y s' K) K) : ExM P W0 m (.seq x y) s K := fun c hc => by
 obtain ⟨a, b, rfl, ha, hb⟩ := L5 hc
 intro F bs x w hs bs0 H0 w0 hm he Q hq
 refine wp_seq (h a ha F bs x w hs bs0 H0 w0 hm he _ fun e s' bs' a' w' hk hrs hext hd => ?_)
 cases e with
 | normal => exact hk b hb F bs' a' w' hrs bs0 H0 w0 hm hext Q fun e2 s2 bs2 a2 w2 h1 h2 h3 h4 => hq e2 s2 bs2 a2 w2 h1 h2 h3 (h4.trans hd)
 | exit id => exact hq (.exit id) s' bs' a' w' hk hrs hext hd
 | ret => exact hq .ret s' bs' a' w' hk hrs hext hd
theorem ExM.cond (hg : Gr P W0 G) {m : Nat} {s : St} {K : Am → St → Prop} {c : AOpd} {x y : ACode} {b : Bool} (hv : ev G s c = some (.bool b)) (ht : b = true → ExM P W0 m x s K) (hf : b = false → ExM P W0 m y s K) : ExM P W0 m (.cond c x y) s K := fun k hk => by
 obtain ⟨p, a, d, rfl, hp, ha, hd⟩ := Jl hk
 intro F bs x w hs bs0 H0 w0 hm he Q hq
 exact wp_cond_split (t := b) (by have := Az hg.g hs hp hv; simpa only [Rep] using this) (fun h => ht h a ha F bs x w hs bs0 H0 w0 hm he Q hq) (fun h => hf h d hd F bs x w hs bs0 H0 w0 hm he Q hq)
theorem ExM.condT (hg : Gr P W0 G) {m : Nat} {s : St} {K : Am → St → Prop} {c : AOpd} {x y : ACode} (hv : ev G s c = some (.bool true)) (h : ExM P W0 m x s K) : ExM P W0 m (.cond c x y) s K := ExM.cond hg hv (fun _ => h) (fun e => by cases e)
theorem ExM.condF (hg : Gr P W0 G) {m : Nat} {s : St} {K : Am → St → Prop} {c : AOpd} {x y : ACode} (hv : ev G s c = some (.bool false)) (h : ExM P W0 m y s K) : ExM P W0 m (.cond c x y) s K := ExM.cond hg hv (fun e => by cases e) (fun _ => h)
theorem ExM.block {m : Nat} {s : St} {K : Am → St → Prop} {id : Nat} {x : ACode} (h : ExM P W0 m x s (Am.inBlock id K)) : ExM P W0 m (.block id x) s K := fun c hc => by
 obtain ⟨a, rfl, ha⟩ := K8 hc
 intro F bs x w hs bs0 H0 w0 hm he Q hq
 refine wp_block (h a ha F bs x w hs bs0 H0 w0 hm he _ fun e s' bs' a' w' hk hrs hext hd => ?_)
 cases e with
 | normal => exact hq .normal s' bs' a' w' hk hrs hext hd
 | ret => exact hq .ret s' bs' a' w' hk hrs hext hd
 | exit j =>
   simp only [Am.inBlock] at hk
   show if j = id then Q .normal a' w' else Q (.exit j) a' w'
   cases hj : Nat.beq j id with
   | true =>
     rw [hj] at hk
     rw [if_pos (nBq hj)]
     exact hq .normal s' bs' a' w' hk hrs hext hd
   | false =>
     rw [hj] at hk
     rw [if_neg (Nat.ne_of_beq_eq_false hj)]
     exact hq (.exit j) s' bs' a' w' hk hrs hext hd
theorem ExM.skip {m : Nat} {s : St} {K : Am → St → Prop} (h : K .normal s) : ExM P W0 m .skip s K := ExM.of (ExA.skip h)
theorem ExM.exit {m : Nat} {s : St} {K : Am → St → Prop} {id : Nat} (h : K (.exit id) s) : ExM P W0 m (.exit id) s K := ExM.of (ExA.exit h)
theorem ExM.ret {m : Nat} {s : St} {K : Am → St → Prop} (h : K .ret s) : ExM P W0 m .ret s K := ExM.of (ExA.ret h)
theorem ExM.draw (hg : Gr P W0 G) {m : Nat} {l : List AOper} {b : Bool} {s : St} {K : Am → St → Prop} (h : Bi P W0 G l s (K .normal)) : ExM P W0 m (.draw l b) s K := ExM.of (ExA.draw hg h)
theorem ExM.loop {m : Nat} {c : ACode} {σ : Type} (st : σ → St) (I : σ → Prop) (μ : σ → Nat) (i : σ) {s : St} {K : Am → St → Prop} (h0 : Fz m (st i) s) (hI : I i)
 (round : ∀ i, I i → ExM P W0 m c (st i) fun e s' => e.then s' (fun s' => ∃ j, I j ∧ μ j < μ i ∧ Fz m (st j) s') K) : ExM P W0 m (.loop c) s K := fun k hk => by
 obtain ⟨k', rfl, hk'⟩ := Jm hk
 intro F bs a w hs bs0 H0 w0 hm he Q hq
 refine Gp (σ := σ) (fun i a' w' => ∃ bs', I i ∧ RS W0 F bs' (st i) a' w' ∧ Ext bs0 H0 w0 bs' (st i).H w' ∧ a'.defers = a.defers) μ (s := i) ?_ ?_
 · obtain ⟨bs', h1, h2⟩ := hs.fz h0 he hm
   exact ⟨bs', hI, h1, h2, rfl⟩
 · rintro i a1 w1 ⟨bs1, hi, hrs1, hext1, hd1⟩
   refine round i hi k' hk' F bs1 a1 w1 hrs1 bs0 H0 w0 hm hext1 _ fun e s' bs' a' w' hkk hrs hext hd => ?_
   cases e with
   | normal =>
     obtain ⟨j, hj, hlt, hw⟩ := hkk
     obtain ⟨bs2, h1, h2⟩ := hrs.fz hw hext hm
     exact ⟨j, ⟨bs2, hj, h1, h2, hd.trans hd1⟩, hlt⟩
   | exit id => exact hq (.exit id) s' bs' a' w' hkk hrs hext (hd.trans hd1)
   | ret => exact hq .ret s' bs' a' w' hkk hrs hext (hd.trans hd1)
def Ak (P : Program) (W0 : World) (_ : List (Nat × AVal)) (m : Nat) (l : List AOper) (s : St) (K : St → Prop) : Prop :=
 ∀ (ops : Array Oper) (i : Nat), Aw P ops (ops.toList.drop i) = some l → ∀ (F : Nat → Prop) (bs : List Nat) (a : Act) (w : World), RS W0 F bs s a w → ∀ (bs0 : List Nat) (H0 : Hz) (w0 : World), H0.length = m → Ext bs0 H0 w0 bs s.H w → ∀ Q : Exit → Act → World → Prop,
  (∀ s' bs' a' w', K s' → RS W0 F bs' s' a' w' → Ext bs0 H0 w0 bs' s'.H w' → a'.defers = a.defers → Q .normal a' w') → wpOps P ops Q (List.range' i l.length) a w
theorem Du {ops : Array Oper} {l : List Oper} {o : AOper} {r : List AOper} (h : Aw P ops l = some (o :: r)) : ∃ x xs, l = x :: xs ∧ B6 P ops x = some o ∧ Aw P ops xs = some r := by
 cases l with
 | nil => simp [Aw] at h
 | cons x xs =>
   simp only [Aw] at h
   split at h
   · rename_i y hy
     split at h
     · rename_i ys hys
       injection h with h; injection h with h1 h2; subst h1; subst h2
       exact ⟨x, xs, rfl, hy, hys⟩
     · cases h
   · cases h
theorem Eu {m : Nat} {s : St} {K : St → Prop} (h : K s) : Ak P W0 G m [] s K := fun ops i hc F bs a w hs bs0 H0 w0 hm he Q hq => by
 simp only [lNi, List.range'_zero, wpOps]
 exact hq s bs a w h hs he rfl
theorem U4 (hg : Gr P W0 G) {m : Nat} {s : St} {K : St → Prop} {o : AOper} {r : List AOper} (h : Jt P W0 G o s fun s' => Ak P W0 G m r s' K) : Ak P W0 G m (o :: r) s K := fun ops i hc F bs a w hs bs0 H0 w0 hm he Q hq => by
 obtain ⟨x, xs, hd, hx, hxs⟩ := Du hc
 have hi : ops[i]? = some x := by
  have h0 := congrArg (fun l => l[0]?) hd
  simp only [List.getElem?_drop, Nat.add_zero, List.getElem?_cons_zero, Array.getElem?_toList] at h0
  exact h0
 have hr : ops.toList.drop (i + 1) = xs := by
  have := congrArg (List.drop 1) hd
  simpa [List.drop_drop] using this
 have hP := Qc hx h
 simp only [lCo, List.range'_succ, wpOps, hi]
 refine J1 hg.g hs hP fun s' bs' a' w' hk hrs hext hdf => ?_
 exact hk ops (i + 1) (by rw [hr]; exact hxs) F bs' a' w' hrs bs0 H0 w0 hm (he.trans hext) Q fun s2 bs2 a2 w2 h1 h2 h3 h4 => hq s2 bs2 a2 w2 h1 h2 h3 (h4.trans hdf)
theorem mFz {m : Nat} {s1 s2 : St} {K : St → Prop} {r : List AOper} (hf : Fz m s1 s2) (h : Ak P W0 G m r s1 K) : Ak P W0 G m r s2 K := fun ops i hc F bs a w hs bs0 H0 w0 hm he Q hq => by
 obtain ⟨bs', h1, h2⟩ := hs.fz hf he hm
 exact h ops i hc F bs' a w h1 bs0 H0 w0 hm h2 Q hq
theorem ExM.ops (_hg : Gr P W0 G) {m : Nat} {l : List AOper} {s : St} {K : Am → St → Prop} (h : Ak P W0 G m l s (K .normal)) : ExM P W0 m (.ops l) s K := fun c hc => by
 obtain ⟨id, ops, rfl, h1⟩ := Oo hc
 intro F bs a w hs bs0 H0 w0 hm he Q hq
 have hlen := (Ci h1).1
 refine wp_region ?_
 have := h ops 0 (by simpa using h1) F bs a w hs bs0 H0 w0 hm he Q fun s' bs' a' w' hk => hq .normal s' bs' a' w' hk
 rw [List.range_eq_range', ← Array.length_toList, ← hlen]
 exact this
theorem A1.of_fnM {f : Nat} {x : AFn} (hf : Ab P f = some x) {args : List AVal} {H : Hz} {v : AVal} {H' : Hz} (hl : args.length ≤ 4094) {n : Nat} (hn : args.length + (x.n - args.length) = n)
 (h : ExM P W0 H.length x.code ⟨.al (Fh 0 args), H, n⟩ (Lp x.res H.length v H')) : A1 P W0 f args H v H' := by
 obtain ⟨fn, c, h1, h2, h3, h4, h5, h6⟩ := Ib hf
 refine ⟨⟨fn, c, h1, h2, h5⟩, fun F bs w cargs hh hr => ?_⟩
 have hrs := Ez hh hr hl fn.ntmps
 have hrs' : RS W0 F bs ⟨.al (Fh 0 args), H, n⟩ { tmps := cargs.toArray ++ Array.replicate (fn.ntmps - cargs.toArray.size) undef, defers := [] } w :=
  ⟨hrs.heap, by rw [hrs.size, ← hn, h6], fun t u hu => hrs.env t u (by
   rw [D9 args 0 .leaf t (by omega)]
   have hu : lk t (Fh 0 args) = some u := hu
   rw [Ih] at hu
   by_cases hc : 0 ≤ t ∧ t < 0 + args.length
   · rw [if_pos hc] at hu ⊢; exact hu
   · rw [if_neg hc] at hu; cases hu)⟩
 refine calls_of_wp h1 h2 (h c h3 F bs _ w hrs' bs H w rfl (Ext.refl _ _ _) _ fun e s' bs' a' w' hk hrs hext hd => ?_)
 obtain ⟨hne, vs, hvs, hlv⟩ := hk
 obtain ⟨cv, r1, r2⟩ := Eh hrs (J8 h4 hvs)
 obtain ⟨bs'', r3, r4, r5⟩ := Lc hrs.heap hext r2 hlv
 have fin : bodyPost P fn (fun e w' => ∃ cv bs', e = .returned cv ∧ Rep F bs' H' w' v cv ∧ A7 W0 F bs' H' w' ∧ Ext bs H w bs' H' w') .ret a' w' := ⟨hd, cv, r1, cv, bs'', rfl, r3, r4, r5⟩
 cases e with
 | normal => exact fin
 | ret => exact fin
 | exit id => exact hne.elim
variable {m : Nat} {l : List (Nat × AVal)} {H H' : Hz} {n : Nat} {K : St → Prop} {r : List AOper}
def Gok (g : Option (Nat × Bool)) (l : List (Nat × AVal)) : Prop := match g with
 | none => True
 | some (t, w) => lk t l = some (.bool w)
theorem gN : Gok none l := trivial
theorem gS {t : Nat} {w : Bool} (h : lk t l = some (.bool w)) : Gok (some (t, w)) l := h
theorem Iy {dst : Option Nat} {g : Option (Nat × Bool)} {op : AOp} (hgd : Gok g l) (h : H7 P W0 H (aop G ⟨.al l, H, n⟩ op) fun v H' => Ou ⟨.al l, H, n⟩ dst v H' K) : Jt P W0 G ⟨dst, g, op⟩ ⟨.al l, H, n⟩ K := by
 cases g with
 | none => exact h
 | some p =>
   obtain ⟨t, w⟩ := p
   have h' : (Env.al l).get t = some (.bool w) := hgd
   simp only [Jt, h']
   cases w <;> exact h
theorem Ag (hg : Gr P W0 G) {g : Option (Nat × Bool)} (hgd : Gok g l) {d : Nat} {op : AOp} {v : AVal} {side : List (Int × Int)} (h : aop G ⟨.al l, H, n⟩ op = some (.val v H' side)) (hd : (Nat.blt d n && Nat.blt d 4094) = true) (hs : Af side) (k : Ak P W0 G m r ⟨.al ((d, v) :: l), H', n⟩ K) : Ak P W0 G m (⟨some d, g, op⟩ :: r) ⟨.al l, H, n⟩ K := by
 refine U4 hg (Iy hgd ?_)
 rw [h]
 exact ⟨hs, hd, k⟩
theorem mVal0 (hg : Gr P W0 G) {g : Option (Nat × Bool)} (hgd : Gok g l) {op : AOp} {v : AVal} {side : List (Int × Int)} (h : aop G ⟨.al l, H, n⟩ op = some (.val v H' side)) (hs : Af side) (k : Ak P W0 G m r ⟨.al l, H', n⟩ K) : Ak P W0 G m (⟨none, g, op⟩ :: r) ⟨.al l, H, n⟩ K := by
 refine U4 hg (Iy hgd ?_)
 rw [h]
 exact ⟨hs, k⟩
theorem A6 (hg : Gr P W0 G) {g : Option (Nat × Bool)} (hgd : Gok g l) {op : AOp} (h : aop G ⟨.al l, H, n⟩ op = some (.skip H')) (k : Ak P W0 G m r ⟨.al l, H', n⟩ K) : Ak P W0 G m (⟨none, g, op⟩ :: r) ⟨.al l, H, n⟩ K := by
 refine U4 hg (Iy hgd ?_)
 rw [h]
 exact k
theorem Zy (hg : Gr P W0 G) {g : Option (Nat × Bool)} (hgd : Gok g l) {d : Nat} {op : AOp} {f : Nat} {args : List AVal} {v : AVal} (h : aop G ⟨.al l, H, n⟩ op = some (.call f args)) (hd : (Nat.blt d n && Nat.blt d 4094) = true) (hc : A1 P W0 f args H v H') (k : Ak P W0 G m r ⟨.al ((d, v) :: l), H', n⟩ K) : Ak P W0 G m (⟨some d, g, op⟩ :: r) ⟨.al l, H, n⟩ K := by
 refine U4 hg (Iy hgd ?_)
 rw [h]
 exact ⟨v, H', hc, hd, k⟩
theorem mB (hg : Gr P W0 G) {g : Option (Nat × Bool)} (hgd : Gok g l) {d : Nat} {op : AOp} {b : Bool} {side : List (Int × Int)} (h : aop G ⟨.al l, H, n⟩ op = some (.val (.bool b) H' side)) (hd : (Nat.blt d n && Nat.blt d 4094) = true) (hs : Af side)
 (k1 : b = true → Ak P W0 G m r ⟨.al ((d, .bool true) :: l), H', n⟩ K) (k2 : b = false → Ak P W0 G m r ⟨.al ((d, .bool false) :: l), H', n⟩ K) : Ak P W0 G m (⟨some d, g, op⟩ :: r) ⟨.al l, H, n⟩ K := by
 cases b
 · exact Ag hg hgd h hd hs (k2 rfl)
 · exact Ag hg hgd h hd hs (k1 rfl)
theorem mCB (hg : Gr P W0 G) {g : Option (Nat × Bool)} (hgd : Gok g l) {d : Nat} {op : AOp} {f : Nat} {args : List AVal} {b : Bool} (h : aop G ⟨.al l, H, n⟩ op = some (.call f args)) (hd : (Nat.blt d n && Nat.blt d 4094) = true) (hc : A1 P W0 f args H (.bool b) H')
 (k1 : b = true → Ak P W0 G m r ⟨.al ((d, .bool true) :: l), H', n⟩ K) (k2 : b = false → Ak P W0 G m r ⟨.al ((d, .bool false) :: l), H', n⟩ K) : Ak P W0 G m (⟨some d, g, op⟩ :: r) ⟨.al l, H, n⟩ K := by
 cases b
 · exact Zy hg hgd h hd hc (k2 rfl)
 · exact Zy hg hgd h hd hc (k1 rfl)
theorem Fg (hg : Gr P W0 G) {g : Option (Nat × Bool)} (hgd : Gok g l) {d : Nat} {op : AOp} {f : Nat} {args : List AVal} {b c : Bool} (h : aop G ⟨.al l, H, n⟩ op = some (.call f args)) (hd : (Nat.blt d n && Nat.blt d 4094) = true) (hc : A1 P W0 f args H (.bool b) H') (hb : b = c)
 (k : Ak P W0 G m r ⟨.al ((d, .bool c) :: l), H', n⟩ K) : Ak P W0 G m (⟨some d, g, op⟩ :: r) ⟨.al l, H, n⟩ K := by
 subst hb; exact Zy hg hgd h hd hc k
theorem mGN (hg : Gr P W0 G) {d : Nat} {op : AOp} {t : Nat} {want : Bool} (h : lk t l = some (.bool (!want))) (hd : (Nat.blt d n && Nat.blt d 4094) = true) (k : Ak P W0 G m r ⟨.al ((d, .tup []) :: l), H, n⟩ K) : Ak P W0 G m (⟨some d, some (t, want), op⟩ :: r) ⟨.al l, H, n⟩ K := by
 refine U4 hg ?_
 have h' : (Env.al l).get t = some (.bool (!want)) := h
 simp only [Jt, h']
 cases want <;> exact ⟨hd, k⟩
theorem mGT (hg : Gr P W0 G) {d : Nat} {op : AOp} {t : Nat} {want : Bool} (h : lk t l = some (.tup [])) (hd : (Nat.blt d n && Nat.blt d 4094) = true) (k : Ak P W0 G m r ⟨.al ((d, .tup []) :: l), H, n⟩ K) : Ak P W0 G m (⟨some d, some (t, want), op⟩ :: r) ⟨.al l, H, n⟩ K := by
 refine U4 hg ?_
 have h' : (Env.al l).get t = some (.tup []) := h
 simp only [Jt, h']
 exact ⟨hd, k⟩
theorem mKv (hg : Gr P W0 G) {g : Option (Nat × Bool)} (hgd : Gok g l) {d : Nat} {op : AOp} {v v0 : AVal} {side : List (Int × Int)} (h : aop G ⟨.al l, H, n⟩ op = some (.val v0 H' side)) (hd : (Nat.blt d n && Nat.blt d 4094) = true) (hs : Af side) (hv : v0 = v) (k : Ak P W0 G m r ⟨.al ((d, v) :: l), H', n⟩ K) : Ak P W0 G m (⟨some d, g, op⟩ :: r) ⟨.al l, H, n⟩ K := by
 subst hv; exact Ag hg hgd h hd hs k
theorem mBk (hg : Gr P W0 G) {g : Option (Nat × Bool)} (hgd : Gok g l) {d : Nat} {op : AOp} {b c : Bool} (h : aop G ⟨.al l, H, n⟩ op = some (.val (.bool b) H [])) (hd : (Nat.blt d n && Nat.blt d 4094) = true) (hb : b = c) (k : Ak P W0 G m r ⟨.al ((d, .bool c) :: l), H, n⟩ K) : Ak P W0 G m (⟨some d, g, op⟩ :: r) ⟨.al l, H, n⟩ K := by
 subst hb; exact Ag hg hgd h hd trivial k
end
def Ju (H : Hz) (n : Nat) (e : Env) : List (Nat × AVal) → Prop
 | [] => True
 | p :: r => (∃ v2, e.get p.1 = some v2 ∧ FzV H n v2 p.2) ∧ Ju H n e r
theorem Xa {H : Hz} {n : Nat} {e : Env} : ∀ {l : List (Nat × AVal)}, Ju H n e l → ∀ p ∈ l, ∃ v2, e.get p.1 = some v2 ∧ FzV H n v2 p.2
 | [], _, _, h => by cases h
 | q :: r, ha, p, h => by
   rcases List.mem_cons.1 h with rfl | h
   · exact ha.1
   · exact Xa ha.2 p h
theorem Ae {m : Nat} {l : List (Nat × AVal)} {H : Hz} {n : Nat} {s : St} (k : Nat) (hn : n = s.n) (hm : m ≤ k) (hH : s.H.take k = H) (hb : B2 k H = true) (h : Ju s.H k s.env l) : Fz m ⟨.al l, H, n⟩ s := by
 refine ⟨hn, k, hm, hH.symm, by rw [hH]; exact hb, fun t v hv => ?_⟩
 have key : ∀ l : List (Nat × AVal), lk t l = some v → (t, v) ∈ l := by
  intro l
  induction l with
  | nil => intro h; cases h
  | cons p l ih =>
    intro hw
    obtain ⟨u, x⟩ := p
    simp only [lk] at hw
    cases hb : Nat.beq t u with
    | true =>
      rw [hb] at hw
      simp only [cond_true, iS] at hw
      have := nBq hb
      subst this; subst hw
      simp
    | false => rw [hb] at hw; exact List.mem_cons_of_mem _ (ih hw)
 exact Xa h (t, v) (key l hv)
theorem fzC {H : Hz} {n t : Nat} {e : Env} {v2 v : AVal} {r : List (Nat × AVal)} (h : e.get t = some v2) (hf : FzV H n v2 v) (k : Ju H n e r) : Ju H n e ((t, v) :: r) := ⟨⟨v2, h, hf⟩, k⟩
theorem fzN {H : Hz} {n : Nat} {e : Env} : Ju H n e [] := trivial
theorem fvI {H : Hz} {n : Nat} {k : IntKind} {i : Int} : FzV H n (.int k i) (.int k i) := .inl ⟨1, rfl⟩
theorem fvB {H : Hz} {n : Nat} {b : Bool} : FzV H n (.bool b) (.bool b) := .inl ⟨1, rfl⟩
theorem fvS {H : Hz} {n : Nat} {s : Bz} : FzV H n (.str s) (.str s) := .inl ⟨1, rfl⟩
theorem A02 {H : Hz} {n k : Nat} : FzV H n .nilSl (.row k []) := .inr ⟨rfl, k, rfl⟩
theorem Ji {H : Hz} {n : Nat} : FzV H n .nilSl .nilSl := .inl ⟨1, rfl⟩
def B4 (l : List Nat) : List AVal := l.map fun (d : Nat) => .int .i64 d
def dg (l : List Nat) : AVal := .row 1 (B4 l)
theorem Av (l : List Nat) : (B4 l).length = l.length := by simp [B4]
theorem Jb {H : Hz} {n : Nat} : ∀ (l : List Nat), H6 H n (l.length + 2) (B4 l) = some (B4 l)
 | [] => rfl
 | d :: l => by
   have ih := Jb (H := H) (n := n) l
   show (match frz H n (l.length + 2) (.int .i64 (d : Nat)) with
    | some v' => match H6 H n (l.length + 2) (B4 l) with
      | some r' => some (v' :: r')
      | none => none
    | none => none) = _
   rw [ih]
   rfl
theorem Ij : ∀ (l : List Nat) (x : List AVal), E0 1 l.length (B4 l ++ x) = B4 l
 | [], _ => rfl
 | d :: l, x => by
   show (cond (Nat.beq 1 1) (cond (AVal.int .i64 (d : Nat)).one (AVal.int .i64 (d : Nat)) _) _) :: E0 1 l.length (B4 l ++ x) = _
   rw [Ij l]
   rfl
theorem As {n : Nat} : ∀ (l : List Nat), A8 n (B4 l) = true
 | [] => rfl
 | _ :: l => As l
theorem fvD {H : Hz} {n : Nat} {l : List Nat} : FzV H n (dg l) (dg l) := .inl ⟨l.length + 3, by
 show (match H6 H n (l.length + 2) (B4 l) with
  | some es' => some (AVal.row 1 es')
  | none => none) = _
 rw [Jb]; rfl⟩
theorem N2 {H : Hz} {n id T : Nat} {l : List Nat} {cap : Option Nat} (hn : n ≤ id) (ho : H[id]? = some (.cells T (B4 l) true)) : FzV H n (.hsl 1 id 0 l.length cap) (dg l) := .inl ⟨l.length + 3, by
 have h1 : Nat.blt id n = false := Xx (by omega)
 have h2 : (Nat.beq 0 0 && Nat.beq (l.length * 1) (B4 l).length) = true := by simp [Av]
 have h3 := Ij l []
 rw [List.append_nil] at h3
 simp only [frz, h1, cond_false, ho, h2, cond_true, h3, Jb]
 rfl⟩
theorem Dh {H : Hz} {n id T : Nat} {l : List Nat} {cap : Option Nat} (hn : n ≤ id) (ho : H[id]? = some (.cells T (B4 l) false)) : FzV H n (.hsl 1 id 0 l.length cap) (dg l) := .inl ⟨l.length + 3, by
 have h1 : Nat.blt id n = false := Xx (by omega)
 have h3 := Ij l []
 rw [List.append_nil] at h3
 simp only [frz, h1, cond_false, ho, List.drop_zero, h3, Jb]
 rfl⟩
section
variable {H : Hz} {n t : Nat} {e : Env} {r : List (Nat × AVal)}
theorem fI {k : IntKind} {i : Int} (x : Ju H n e r) (h : e.get t = some (.int k i) := by rfl) : Ju H n e ((t, .int k i) :: r) := fzC h fvI x
theorem fB {b : Bool} (x : Ju H n e r) (h : e.get t = some (.bool b) := by rfl) : Ju H n e ((t, .bool b) :: r) := fzC h fvB x
theorem fS {s : Bz} (x : Ju H n e r) (h : e.get t = some (.str s) := by rfl) : Ju H n e ((t, .str s) :: r) := fzC h fvS x
end
end Go.Abs
namespace Go.Abs
def Dig (a : List Nat) : Prop := ∀ d ∈ a, d < 10
def Trd (a : List Nat) : Prop := ∀ n, a.length = n + 1 → a.getD n 0 ≠ 0
def Da (a : List Nat) : Nat → Nat
 | 0 => 0
 | n + 1 => Da a n + a.getD n 0 * 10 ^ n
def val (a : List Nat) : Nat := Da a a.length
theorem Dig.get {a : List Nat} (h : Dig a) (i : Nat) : a.getD i 0 < 10 := by
 by_cases hi : i < a.length
 · rw [List.getD_eq_getElem?_getD, gGe hi]
   exact h _ (List.getElem_mem hi)
 · rw [List.getD_eq_getElem?_getD, List.getElem?_eq_none (by omega)]
   decide
theorem Dig.nil : Dig [] := fun _ h => by cases h
theorem Dig.cons {a : List Nat} {d : Nat} (hd : d < 10) (h : Dig a) : Dig (d :: a) := fun x hx => by
 rcases List.mem_cons.1 hx with rfl | hx
 · exact hd
 · exact h x hx
theorem Dig.snoc {a : List Nat} {d : Nat} (hd : d < 10) (h : Dig a) : Dig (a ++ [d]) := fun x hx => by
 rcases List.mem_append.1 hx with hx | hx
 · exact h x hx
 · rw [List.mem_singleton.1 hx]; exact hd
theorem Dig.app {a b : List Nat} (ha : Dig a) (hb : Dig b) : Dig (a ++ b) := fun x hx => by
 rcases List.mem_append.1 hx with hx | hx
 · exact ha x hx
 · exact hb x hx
theorem Dig.take {a : List Nat} (h : Dig a) (n : Nat) : Dig (a.take n) := fun x hx => h x (List.mem_of_mem_take hx)
theorem Dig.zeros (n : Nat) : Dig (List.replicate n 0) := fun x hx => by rw [(List.mem_replicate.1 hx).2]; decide
theorem Jh {a : List Nat} (h : Dig a) : ∀ n, Da a n < 10 ^ n
 | 0 => by simp [Da]
 | n + 1 => by
   have h1 := Jh h n
   have h2 := h.get n
   have h3 : a.getD n 0 * 10 ^ n ≤ 9 * 10 ^ n := Nat.mul_le_mul_right _ (by omega)
   simp only [Da]
   rw [Nat.pow_succ]
   omega
theorem Nc {a : List Nat} {n : Nat} (h : a.length ≤ n) : a.getD n 0 = 0 := by
 rw [List.getD_eq_getElem?_getD, List.getElem?_eq_none h]; rfl
theorem S4 {a : List Nat} : ∀ {n : Nat}, a.length ≤ n → Da a n = val a
 | n, h => by
   induction n with
   | zero => have : a.length = 0 := by omega
             simp [val, this]
   | succ n ih =>
     by_cases hl : a.length = n + 1
     · rw [val, hl]
     · simp only [Da]
       rw [ih (by omega), Nc (by omega)]
       simp
theorem N5 {a b : List Nat} : ∀ {n : Nat}, (∀ i, i < n → a.getD i 0 = b.getD i 0) → Da a n = Da b n
 | 0, _ => rfl
 | n + 1, h => by
   simp only [Da]
   rw [N5 (n := n) (fun i hi => h i (by omega)), h n (by omega)]
theorem T9 (x : Nat) (a : List Nat) : ∀ n, Da (x :: a) (n + 1) = x + 10 * Da a n
 | 0 => by simp [Da]
 | n + 1 => by
   have ih := T9 x a n
   have h1 : Da (x :: a) (n + 1 + 1) = Da (x :: a) (n + 1) + (x :: a).getD (n + 1) 0 * 10 ^ (n + 1) := rfl
   have h2 : (x :: a).getD (n + 1) 0 = a.getD n 0 := rfl
   have h3 : Da a (n + 1) = Da a n + a.getD n 0 * 10 ^ n := rfl
   have h4 : a.getD n 0 * 10 ^ (n + 1) = 10 * (a.getD n 0 * 10 ^ n) := by rw [Nat.pow_succ, Nat.mul_comm (10 ^ n) 10, ← Nat.mul_assoc, Nat.mul_comm _ 10, Nat.mul_assoc]
   rw [h1, ih, h2, h3, h4, Nat.mul_add, Nat.add_assoc]
theorem Gw (x : Nat) (a : List Nat) : val (x :: a) = x + 10 * val a := by
 rw [val, lCo, T9]; rfl
theorem Vg {a : List Nat} {n : Nat} (h : Trd a) (hn : a.length = n + 1) : 10 ^ n ≤ val a := by
 have h1 := h n hn
 rw [val, hn]
 simp only [Da]
 have : 1 * 10 ^ n ≤ a.getD n 0 * 10 ^ n := Nat.mul_le_mul_right _ (by omega)
 omega
theorem val_pos {a : List Nat} (h : Trd a) (hn : 0 < a.length) : 0 < val a := by
 obtain ⟨n, hn⟩ : ∃ n, a.length = n + 1 := ⟨a.length - 1, by omega⟩
 have := Vg h hn
 have h2 : 0 < 10 ^ n := Nat.pow_pos (by decide)
 omega
def I0 (a : List Nat) : Nat → Nat
 | 0 => 0
 | n + 1 => if a.getD n 0 = 0 then I0 a n else n + 1
def Iz (a : List Nat) : List Nat := a.take (I0 a a.length)
theorem Wz (a : List Nat) : ∀ n, I0 a n ≤ n
 | 0 => Nat.le_refl _
 | n + 1 => by
   simp only [I0]
   split
   · exact Nat.le_succ_of_le (Wz a n)
   · exact Nat.le_refl _
theorem T8 (a : List Nat) : ∀ n, Da a (I0 a n) = Da a n
 | 0 => rfl
 | n + 1 => by
   simp only [I0]
   split
   · rename_i h; rw [T8 a n]; simp only [Da, h]; simp
   · rfl
theorem Vx (a : List Nat) : ∀ n k, I0 a n = k + 1 → a.getD k 0 ≠ 0
 | 0, k, h => by cases h
 | n + 1, k, h => by
   simp only [I0] at h
   split at h
   · exact Vx a n k h
   · rename_i h0
     have : n = k := by omega
     subst this; exact h0
theorem Uc {a : List Nat} {n i : Nat} (h : i < n) : (a.take n).getD i 0 = a.getD i 0 := by
 rw [List.getD_eq_getElem?_getD, List.getD_eq_getElem?_getD, List.getElem?_take_of_lt h]
theorem Nx (a : List Nat) : (Iz a).length = I0 a a.length := by
 have := Wz a a.length
 rw [Iz, List.length_take]; omega
theorem A0v (a : List Nat) : val (Iz a) = val a := by
 have h1 := T8 a a.length
 have h2 : val (Iz a) = Da (Iz a) (I0 a a.length) := by rw [val, Nx]
 rw [h2, val, ← h1]
 exact N5 fun i hi => Uc hi
theorem A1g (a : List Nat) : Trd (Iz a) := fun n hn => by
 rw [Nx] at hn
 have h := Vx a _ _ hn
 rw [Iz, hn, Uc (by omega)]
 exact h
theorem A1e {a : List Nat} (h : Dig a) : Dig (Iz a) := h.take _
def O7 (a b : List Nat) : Nat → Bool
 | 0 => false
 | n + 1 => if a.getD n 0 = b.getD n 0 then O7 a b n else decide (a.getD n 0 < b.getD n 0)
def S8 (a b : List Nat) : Bool := if a.length = b.length then O7 a b a.length else decide (a.length < b.length)
theorem Tc {a b : List Nat} (ha : Dig a) (hb : Dig b) : ∀ n, O7 a b n = decide (Da a n < Da b n)
 | 0 => by simp [O7, Da]
 | n + 1 => by
   have ih := Tc ha hb n
   have h1 := Jh ha n
   have h2 := Jh hb n
   simp only [O7, Da]
   split
   · rename_i h
     rw [ih]
     refine decide_eq_decide.2 ?_
     rw [h]; omega
   · rename_i h
     refine decide_eq_decide.2 ?_
     constructor
     · intro hlt
       have : (a.getD n 0 + 1) * 10 ^ n ≤ b.getD n 0 * 10 ^ n := Nat.mul_le_mul_right _ hlt
       rw [Nat.add_mul] at this
       omega
     · intro hlt
       by_cases hc : a.getD n 0 < b.getD n 0
       · exact hc
       · have : (b.getD n 0 + 1) * 10 ^ n ≤ a.getD n 0 * 10 ^ n := Nat.mul_le_mul_right _ (by omega)
         rw [Nat.add_mul] at this
         omega
theorem A0p {a b : List Nat} (ha : Dig a) (hb : Dig b) (ta : Trd a) (tb : Trd b) : S8 a b = decide (val a < val b) := by
 unfold S8
 split
 · rename_i h
   rw [Tc ha hb]
   refine decide_eq_decide.2 ?_
   rw [val, val, ← h]
 · rename_i h
   refine decide_eq_decide.2 ?_
   have key : ∀ {a b : List Nat}, Dig a → Trd b → a.length < b.length → val a < val b := by
    intro a b ha tb hlt
    obtain ⟨n, hn⟩ : ∃ n, b.length = n + 1 := ⟨b.length - 1, by omega⟩
    have h1 := Vg tb hn
    have h2 := Jh ha a.length
    have h3 : 10 ^ a.length ≤ 10 ^ n := Nat.pow_le_pow_right (by decide) (by omega)
    have h4 : val a = Da a a.length := rfl
    omega
   constructor
   · exact key ha tb
   · intro hv
     by_cases hc : a.length < b.length
     · exact hc
     · have := key hb ta (by omega)
       omega
structure H5 (a b out : List Nat) (i c : Nat) : Prop where
 len : out.length = i
 dig : Dig out
 hc : c ≤ 1
 v : Da a i + c * 10 ^ i = val out + Da b i
theorem R1 (out : List Nat) (d : Nat) : val (out ++ [d]) = val out + d * 10 ^ out.length := by
 rw [val, lAp, List.length_singleton]
 have h1 : Da (out ++ [d]) (out.length + 1) = Da (out ++ [d]) out.length + (out ++ [d]).getD out.length 0 * 10 ^ out.length := rfl
 rw [h1]
 have h2 : (out ++ [d]).getD out.length 0 = d := by
  rw [List.getD_eq_getElem?_getD, List.getElem?_append_right (Nat.le_refl _)]; simp
 have h3 : Da (out ++ [d]) out.length = Da out out.length := N5 fun i hi => by
  rw [List.getD_eq_getElem?_getD, List.getD_eq_getElem?_getD, List.getElem?_append_left hi]
 rw [h2, h3]; rfl
theorem H5.zero (a b : List Nat) : H5 a b [] 0 0 := ⟨rfl, Dig.nil, by decide, by simp [Da, val]⟩
theorem H5.step0 {a b out : List Nat} {i c d : Nat} (h : H5 a b out i c) (hd : d < 10) (he : a.getD i 0 = d + b.getD i 0 + c) : H5 a b (out ++ [d]) (i + 1) 0 := by
 obtain ⟨h1, h2, h3, h4⟩ := h
 refine ⟨by simp [h1], h2.snoc hd, by decide, ?_⟩
 rw [R1, h1]
 simp only [Da]
 rw [he, Nat.add_mul, Nat.add_mul]
 omega
theorem H5.step1 {a b out : List Nat} {i c d : Nat} (h : H5 a b out i c) (hd : d < 10) (he : a.getD i 0 + 10 = d + b.getD i 0 + c) : H5 a b (out ++ [d]) (i + 1) 1 := by
 obtain ⟨h1, h2, h3, h4⟩ := h
 refine ⟨by simp [h1], h2.snoc hd, by decide, ?_⟩
 rw [R1, h1]
 simp only [Da]
 have : a.getD i 0 * 10 ^ i + 10 * 10 ^ i = (d + b.getD i 0 + c) * 10 ^ i := by rw [← Nat.add_mul, he]
 rw [Nat.add_mul, Nat.add_mul] at this
 rw [Nat.pow_succ]
 omega
theorem H5.fin {a b out : List Nat} {c : Nat} (h : H5 a b out a.length c) (ha : Dig a) (_ : Dig b) (tb : Trd b) (hv : val b ≤ val a) : val out + val b = val a := by
 obtain ⟨h1, h2, h3, h4⟩ := h
 have hl : b.length ≤ a.length := by
  apply Classical.byContradiction
  intro hc
  obtain ⟨n, hn⟩ : ∃ n, b.length = n + 1 := ⟨b.length - 1, by omega⟩
  have k1 := Vg tb hn
  have k2 := Jh ha a.length
  have k3 : 10 ^ a.length ≤ 10 ^ n := Nat.pow_le_pow_right (by decide) (by omega)
  have k4 : val a = Da a a.length := rfl
  omega
 rw [S4 hl] at h4
 have k1 : Da a a.length = val a := rfl
 have k2 := Jh h2 out.length
 have k3 : val out = Da out out.length := rfl
 rw [h1] at k2 k3
 rw [k1] at h4
 have hc : c = 0 := by
  apply Classical.byContradiction
  intro hc
  have : c = 1 := by omega
  subst this
  omega
 subst hc
 omega
def D1 (n : Nat) : List Nat := if n = 0 then [] else n % 10 :: D1 (n / 10)
decreasing_by omega
theorem E8 : D1 0 = [] := by rw [D1]; rfl
theorem I1 {n : Nat} (h : n ≠ 0) : D1 n = n % 10 :: D1 (n / 10) := by rw [D1, if_neg h]
theorem D2 (n : Nat) : val (D1 n) = n := by
 induction n using Nat.strongRecOn with
 | _ n ih =>
   by_cases h : n = 0
   · subst h; rw [E8]; rfl
   · rw [I1 h, Gw, ih (n / 10) (by omega)]; omega
theorem F4 (n : Nat) : Dig (D1 n) := by
 induction n using Nat.strongRecOn with
 | _ n ih =>
   by_cases h : n = 0
   · subst h; rw [E8]; exact Dig.nil
   · rw [I1 h]; exact Dig.cons (Nat.mod_lt _ (by decide)) (ih (n / 10) (by omega))
theorem Wp {n : Nat} (h : D1 n = []) : n = 0 := by
 have := D2 n
 rw [h] at this
 exact this.symm
theorem Q8 {n : Nat} (h : n ≠ 0) : (D1 n).length ≠ 0 := fun e => h (Wp (List.length_eq_zero_iff.1 e))
theorem L3 (n : Nat) : Trd (D1 n) := by
 induction n using Nat.strongRecOn with
 | _ n ih =>
   intro k hk
   by_cases h : n = 0
   · subst h; rw [E8] at hk; cases hk
   · rw [I1 h] at hk ⊢
     by_cases h1 : n / 10 = 0
     · rw [h1, E8] at hk ⊢
       have : k = 0 := by simpa using hk.symm
       subst this
       show n % 10 ≠ 0
       omega
     · have hne := Q8 h1
       rw [lCo] at hk
       obtain ⟨j, hj⟩ : ∃ j, k = j + 1 := ⟨k - 1, by omega⟩
       subst hj
       exact ih (n / 10) (by omega) j (by omega)
theorem Trd.tail {d : Nat} {l : List Nat} (h : Trd (d :: l)) : Trd l := fun n hn => by
 have := h (n + 1) (by rw [lCo, hn])
 exact this
theorem Om : ∀ {l : List Nat}, Dig l → Trd l → D1 (val l) = l
 | [], _, _ => E8
 | d :: l, hd, ht => by
   have ih := Om (l := l) (fun x hx => hd x (List.mem_cons_of_mem _ hx)) ht.tail
   have hd0 : d < 10 := hd d (by simp)
   rw [Gw]
   have hne : d + 10 * val l ≠ 0 := by
    intro h0
    have h1 : d = 0 := by omega
    have h2 : val l = 0 := by omega
    by_cases hl : l.length = 0
    · have := List.length_eq_zero_iff.1 hl
      subst this
      exact ht 0 rfl h1
    · have := val_pos ht.tail (by omega)
      omega
   rw [I1 hne, show (d + 10 * val l) % 10 = d by omega, show (d + 10 * val l) / 10 = val l by omega, ih]
theorem Ky {l : List Nat} (h : Dig l) : Iz l = D1 (val l) := by
 rw [← A0v l, Om (A1e h) (A1g l)]
theorem E7 {n k : Nat} (h : n < 10 ^ k) : (D1 n).length ≤ k := by
 apply Classical.byContradiction
 intro hc
 obtain ⟨j, hj⟩ : ∃ j, (D1 n).length = j + 1 := ⟨(D1 n).length - 1, by omega⟩
 have h1 := Vg (L3 n) hj
 rw [D2] at h1
 have h2 : 10 ^ k ≤ 10 ^ j := Nat.pow_le_pow_right (by decide) (by omega)
 omega
theorem A0s (n : Nat) : (D1 n).getD 0 0 = n % 10 := by
 by_cases h : n = 0
 · subst h; rw [E8]; rfl
 · rw [I1 h]; rfl
theorem less_dN (x y : Nat) : S8 (D1 x) (D1 y) = decide (x < y) := by
 rw [A0p (F4 x) (F4 y) (L3 x) (L3 y)]
 refine decide_eq_decide.2 ?_
 rw [D2, D2]
theorem A0f (n : Nat) (l : List Nat) : val (List.replicate n 0 ++ l) = val l * 10 ^ n := by
 induction n with
 | zero => simp
 | succ n ih =>
   rw [List.replicate_succ, List.cons_append, Gw, ih, Nat.pow_succ, Nat.zero_add, Nat.mul_comm 10, Nat.mul_assoc]
theorem Trd.zeros {l : List Nat} (h : Trd l) (hl : l.length ≠ 0) (n : Nat) : Trd (List.replicate n 0 ++ l) := fun k hk => by
 rw [lAp, List.length_replicate] at hk
 rw [List.getD_eq_getElem?_getD, List.getElem?_append_right (by simp; omega), List.length_replicate, ← List.getD_eq_getElem?_getD]
 exact h (k - n) (by omega)
theorem ten_dN {x : Nat} (hx : x ≠ 0) (n : Nat) : List.replicate n 0 ++ D1 x = D1 (x * 10 ^ n) := by
 rw [← Om ((Dig.zeros n).app (F4 x)) ((L3 x).zeros (Q8 hx) n), A0f, D2]
structure Oe (a b out : List Nat) (i c : Nat) : Prop where
 len : out.length = i
 dig : Dig out
 hc : c ≤ 1
 v : val out + c * 10 ^ i = Da a i + Da b i
 e : i ≤ max a.length b.length ∨ (i = max a.length b.length + 1 ∧ c = 0)
theorem Oe.zero (a b : List Nat) : Oe a b [] 0 0 := ⟨rfl, Dig.nil, by decide, by simp [Da, val], .inl (Nat.zero_le _)⟩
theorem Oe.step {a b out : List Nat} {i c : Nat} (h : Oe a b out i c) (ha : Dig a) (hb : Dig b) (hi : i < a.length ∨ i < b.length ∨ 0 < c) : Oe a b (out ++ [(a.getD i 0 + b.getD i 0 + c) % 10]) (i + 1) ((a.getD i 0 + b.getD i 0 + c) / 10) := by
 obtain ⟨h1, h2, h3, h4, h5⟩ := h
 have k1 := ha.get i
 have k2 := hb.get i
 refine ⟨by simp [h1], h2.snoc (Nat.mod_lt _ (by decide)), by omega, ?_, ?_⟩
 · rw [R1, h1]
   simp only [Da]
   have hm := Nat.div_add_mod (a.getD i 0 + b.getD i 0 + c) 10
   generalize (a.getD i 0 + b.getD i 0 + c) / 10 = q at *
   generalize (a.getD i 0 + b.getD i 0 + c) % 10 = m at *
   have : (10 * q + m) * 10 ^ i = (a.getD i 0 + b.getD i 0 + c) * 10 ^ i := by rw [hm]
   rw [Nat.add_mul, Nat.add_mul, Nat.add_mul] at this
   rw [Nat.pow_succ, Nat.mul_comm (10 ^ i) 10, ← Nat.mul_assoc, Nat.mul_comm q 10]
   omega
 · by_cases hlt : i < max a.length b.length
   · left; omega
   · right
     have hmx : i = max a.length b.length := by omega
     refine ⟨by omega, ?_⟩
     rw [Nc (by omega), Nc (by omega)]
     omega
theorem Oe.fin {a b out : List Nat} {i c : Nat} (h : Oe a b out i c) (h1 : ¬ i < a.length) (h2 : ¬ i < b.length) (h3 : ¬ 0 < c) : val out = val a + val b := by
 have := h.v
 have hc : c = 0 := by omega
 rw [hc, S4 (by omega), S4 (by omega)] at this
 omega
structure ByI (a : List Nat) (y : Nat) (q : List Nat) (r k : Nat) : Prop where
 hk : k ≤ a.length
 len : q.length + k = a.length
 dig : Dig q
 hr : r < y
 v : val q * y + r = val (a.drop k)
theorem ByI.zero (a : List Nat) {y : Nat} (hy : 0 < y) : ByI a y [] 0 a.length := ⟨Nat.le_refl _, by simp, Dig.nil, hy, by simp [val, Da]⟩
theorem Ql {a : List Nat} {k : Nat} (h : k < a.length) : a.drop k = a.getD k 0 :: a.drop (k + 1) := by
 rw [List.getD_eq_getElem?_getD, gGe h]
 exact List.drop_eq_getElem_cons h
theorem ByI.step {a : List Nat} {y : Nat} {q : List Nat} {r k d r' : Nat} (h : ByI a y q r (k + 1)) (ha : Dig a) (hr : r' < y) (hd : d * y + r' = a.getD k 0 + 10 * r) : ByI a y (d :: q) r' k ∧ d < 10 := by
 obtain ⟨h1, h2, h3, h4, h5⟩ := h
 have k1 := ha.get k
 have hd10 : d < 10 := by
  apply Classical.byContradiction
  intro hc
  have : 10 * y ≤ d * y := Nat.mul_le_mul_right _ (by omega)
  omega
 refine ⟨⟨by omega, by simp; omega, h3.cons hd10, hr, ?_⟩, hd10⟩
 rw [Ql (by omega), Gw, Gw, ← h5, Nat.add_mul]
 rw [Nat.mul_add, ← Nat.mul_assoc]
 omega
theorem ByI.fin {a : List Nat} {y : Nat} {q : List Nat} {r : Nat} (h : ByI a y q r 0) : val q = val a / y ∧ r = val a % y := by
 obtain ⟨h1, h2, h3, h4, h5⟩ := h
 rw [List.drop_zero] at h5
 have hy : 0 < y := by omega
 refine ⟨?_, ?_⟩
 · rw [← h5, Nat.mul_comm, Nat.mul_add_div hy, Nat.div_eq_of_lt h4, Nat.add_zero]
 · rw [← h5, Nat.mul_comm, Nat.mul_add_mod, Nat.mod_eq_of_lt h4]
end Go.Abs
namespace Go.Abs
open Go.RowKit
def Aj (P : Program) (W0 : World) (f : FuncId) (args : List AVal) (Q : AVal → Prop) : Prop :=
 E1 P f ∧ ∀ (F : Nat → Prop) (w : World) (cargs : List Value), A7 W0 F [] [] w → A5 F [] [] w args cargs →
  Calls P f cargs.toArray w fun e w' => ∃ v cv, Q v ∧ e = .returned cv ∧ Rep F [] [] w' v cv ∧ A7 W0 F [] [] w' ∧ Ext [] [] w [] [] w'
section
variable {P : Program} {W0 : World} {G : List (Nat × AVal)}
theorem Aj.of {f : FuncId} {args : List AVal} {v : AVal} (h : A1 P W0 f args [] v []) : Aj P W0 f args (fun x => x = v) := by
 refine ⟨h.1, fun F w cargs hh hr => Calls.mono (h.2 F [] w cargs hh hr) fun e w' he => ?_⟩
 obtain ⟨cv, bs', rfl, h1, h2, h3⟩ := he
 have hb : bs' = [] := List.length_eq_zero_iff.1 (by simpa using h2.len)
 subst hb
 exact ⟨v, cv, rfl, rfl, h1, h2, h3⟩
theorem Aj.mono {f : FuncId} {args : List AVal} {Q Q' : AVal → Prop} (h : Aj P W0 f args Q) (hq : ∀ v, Q v → Q' v) : Aj P W0 f args Q' :=
 ⟨h.1, fun F w cargs hh hr => Calls.mono (h.2 F w cargs hh hr) fun _ _ ⟨v, cv, k1, k2⟩ => ⟨v, cv, hq v k1, k2⟩⟩
theorem Aj.at {f : FuncId} {args : List AVal} {Q : AVal → Prop} (h : Aj P W0 f args Q) (ha : A8 0 args = true) (hq : ∀ v, Q v → blw 0 v = true) {F : Nat → Prop} {bs : List Nat} {H : Hz} {w : World} {cargs : List Value} (hh : A7 W0 F bs H w) (hr : A5 F bs H w args cargs) :
 Calls P f cargs.toArray w fun e w' => ∃ v cv, Q v ∧ e = .returned cv ∧ Rep F bs H w' v cv ∧ A7 W0 F bs H w' ∧ Ext bs H w bs H w' := by
 let F' : Nat → Prop := fun b => F b ∨ b ∈ bs
 have hh0 : A7 W0 F' [] [] w := by
  refine ⟨rfl, hh.base, fun b hb => (List.not_mem_nil hb).elim, List.nodup_nil, fun b hb => ?_, fun i o b hi => by simp at hi⟩
  rcases hb with hb | hb
  · obtain ⟨q1, q2, _⟩ := hh.forb b hb
    exact ⟨q1, q2, List.not_mem_nil⟩
  · exact ⟨(hh.low b hb).1, (hh.low b hb).2, List.not_mem_nil⟩
 have hdown : A14 F F' bs [] H [] id 0 := ⟨fun j hj => by omega, fun j hj => by omega, fun b hb => (List.not_mem_nil hb).elim, fun b hb => hb⟩
 have hr0 : A5 F' [] [] w args cargs := A5.down hdown args cargs ha (by rw [Aq args ha]; exact hr)
 refine Calls.mono (h.2 F' w cargs hh0 hr0) fun e w' he => ?_
 obtain ⟨v, cv, k1, rfl, k3, k4, k5⟩ := he
 have hup : Up F F' bs [] H [] id := ⟨fun j o ho => by simp at ho, fun j b hb => by simp at hb, fun b _ hf => ⟨fun hm => hf (.inr hm), fun hF => hf (.inl hF)⟩⟩
 have hz : ∀ b, b < w.heap.size → Bv w' b = Bv w b := fun b hb' => by
  unfold Bv; rw [k5.block b hb' (by simp)]
 have hext : Ext bs H w bs H w' := by
  refine ⟨k5.size, fun k hk _ => k5.block k hk (by simp), fun k hk => .inl hk, fun i o ho => ⟨o, ho, ?_⟩⟩
  cases o with
  | dead => rfl
  | iter s p => exact .inr ⟨s, p, rfl, rfl⟩
  | mp es => exact .inr ⟨es, rfl, rfl⟩
  | cells T cs op =>
    cases op with
    | false => exact .inr ⟨T, cs, rfl, rfl, rfl⟩
    | true => exact .inr ⟨T, cs, rfl, .inr ⟨rfl, rfl, fun b hb => hz b (hh.low b (mGe hb)).2⟩⟩
 refine ⟨v, cv, k1, rfl, ?_, ?_, hext⟩
 · have := Rep.up hup v cv k3
   rw [I4 v (hq v k1)] at this
   exact this
 · exact ⟨hh.len, k4.base, fun b hb => ⟨(hh.low b hb).1, nLl (hh.low b hb).2 k5.size⟩, hh.nodup, fun b hb => by
    obtain ⟨q1, q2, q3⟩ := hh.forb b hb
    exact ⟨q1, nLl q2 k5.size, q3⟩, fun i o b hi hb => (hh.obj i o b hi hb).ext hext (k5.block b (hh.low b (mGe hb)).2 (by simp))⟩
theorem Aj.of_fnM {f : Nat} {x : AFn} (hf : Ab P f = some x) {args : List AVal} {Q : AVal → Prop} (hl : args.length ≤ 4094) {n : Nat} (hn : args.length + (x.n - args.length) = n)
 (h : ExM P W0 0 x.code ⟨.al (Fh 0 args), [], n⟩ fun e s => ∃ v, Q v ∧ Lp x.res 0 v [] e s) : Aj P W0 f args Q := by
 obtain ⟨fn, c, h1, h2, h3, h4, h5, h6⟩ := Ib hf
 refine ⟨⟨fn, c, h1, h2, h5⟩, fun F w cargs hh hr => ?_⟩
 have hrs := Ez hh hr hl fn.ntmps
 have hrs' : RS W0 F [] ⟨.al (Fh 0 args), [], n⟩ { tmps := cargs.toArray ++ Array.replicate (fn.ntmps - cargs.toArray.size) undef, defers := [] } w :=
  ⟨hrs.heap, by rw [hrs.size, ← hn, h6], fun t u hu => hrs.env t u (by
   rw [D9 args 0 .leaf t (by omega)]
   have hu : lk t (Fh 0 args) = some u := hu
   rw [Ih] at hu
   by_cases hc : 0 ≤ t ∧ t < 0 + args.length
   · rw [if_pos hc] at hu ⊢; exact hu
   · rw [if_neg hc] at hu; cases hu)⟩
 refine calls_of_wp h1 h2 (h c h3 F [] _ w hrs' [] [] w rfl (Ext.refl _ _ _) _ fun e s' bs' a' w' hk hrs hext hd => ?_)
 obtain ⟨v, hQ, hne, vs, hvs, hlv⟩ := hk
 obtain ⟨cv, r1, r2⟩ := Eh hrs (J8 h4 hvs)
 obtain ⟨bs'', r3, r4, r5⟩ := Lc (H0 := []) hrs.heap hext r2 hlv
 have hb : bs'' = [] := List.length_eq_zero_iff.1 (by simpa using r4.len)
 subst hb
 have fin : bodyPost P fn (fun e w' => ∃ v cv, Q v ∧ e = .returned cv ∧ Rep F [] [] w' v cv ∧ A7 W0 F [] [] w' ∧ Ext [] [] w [] [] w') .ret a' w' := ⟨hd, cv, r1, v, cv, hQ, rfl, r3, r4, r5⟩
 cases e with
 | normal => exact fin
 | ret => exact fin
 | exit id => exact hne.elim
variable {m : Nat} {l : List (Nat × AVal)} {H H' : Hz} {n : Nat} {K : St → Prop} {r : List AOper}
theorem Bd (hg : Gr P W0 G) {g : Option (Nat × Bool)} (hgd : Gok g l) {d : Nat} {op : AOp} {f : Nat} {args : List AVal} {Q : AVal → Prop} (h : aop G ⟨.al l, H, n⟩ op = some (.call f args)) (hd : (Nat.blt d n && Nat.blt d 4094) = true) (ha : A8 0 args = true) (hc : Aj P W0 f args Q) (hq : ∀ v, Q v → blw 0 v = true)
 (k : ∀ v, Q v → Ak P W0 G m r ⟨.al ((d, v) :: l), H, n⟩ K) : Ak P W0 G m (⟨some d, g, op⟩ :: r) ⟨.al l, H, n⟩ K := fun ops i hco F bs a w hs bs0 H0 w0 hm he Q0 hq0 => by
 obtain ⟨x, xs, hdr, hx, hxs⟩ := Du hco
 have hi : ops[i]? = some x := by
  have h0 := congrArg (fun l => l[0]?) hdr
  simp only [List.getElem?_drop, Nat.add_zero, List.getElem?_cons_zero, Array.getElem?_toList] at h0
  exact h0
 have hr : ops.toList.drop (i + 1) = xs := by
  have := congrArg (List.drop 1) hdr
  simpa [List.drop_drop] using this
 simp only [lCo, List.range'_succ, wpOps, hi]
 have hdst : x.dst = some d := (Df hx).symm
 have hop : ∃ o', Ah P x.op = some o' ∧ o' = op := by
  unfold B6 at hx
  cases hgx : By ops x.guard with
  | none => rw [hgx] at hx; cases hx
  | some gx =>
    rw [hgx] at hx
    simp only at hx
    cases hop : Ah P x.op with
    | none => rw [hop] at hx; cases hx
    | some o' =>
      rw [hop] at hx
      injection hx with hx
      injection hx with _ _ hx
      exact ⟨o', rfl, hx⟩
 obtain ⟨o', ho', rfl⟩ := hop
 have hg' : Bq ops ⟨.al l, H, n⟩ x.guard = some true := by
  unfold B6 at hx
  cases hgx : By ops x.guard with
  | none => rw [hgx] at hx; cases hx
  | some gx =>
    rw [hgx] at hx
    simp only [ho'] at hx
    injection hx with hx
    injection hx with _ hx _
    subst hx
    cases hxg : x.guard with
    | none => rfl
    | some gw =>
      obtain ⟨j, want⟩ := gw
      rw [hxg] at hgx
      simp only [By] at hgx
      cases hd' : (ops[j]?).bind (·.dst) with
      | none => rw [hd'] at hgx; cases hgx
      | some d' =>
        rw [hd'] at hgx
        simp only [iS] at hgx
        subst hgx
        have hl : (Env.al l).get d' = some (.bool want) := hgd
        simp only [Bq, hd', hl]
        cases want <;> rfl
 rw [O2 hs hg']
 simp only [if_true]
 refine .inl ?_
 have hok := V2 (P := P) hg.g hs ho' h
 obtain ⟨cargs, h1, h2⟩ := hok hc.1
 unfold Oper.wp
 rw [h1, Oper.upon_enter]
 refine Calls.mono (hc.at ha hq hs.heap h2) fun e w' he' => ?_
 obtain ⟨v, cv, k1, rfl, k3, k4, k5⟩ := he'
 obtain ⟨s', hK, hrs, hH⟩ := hs.put (dst := x.dst) (K := fun s' => s' = ⟨.al ((d, v) :: l), H, n⟩) k3 k4 k5 (by rw [hdst]; exact ⟨hd, rfl⟩)
 subst hK
 have hput : ∀ (dst : Option Tmp) (v : Value), (a.put dst v).defers = a.defers := fun dst v => by cases dst <;> rfl
 exact k v k1 ops (i + 1) (by rw [hr]; exact hxs) F bs _ w' hrs bs0 H0 w0 hm (he.trans k5) Q0 fun s2 bs2 a2 w2 e1 e2 e3 e4 => hq0 s2 bs2 a2 w2 e1 e2 e3 (e4.trans (hput _ _))
end
theorem B8 {x y : Int} (h1 : -9223372036854775808 ≤ x) (h2 : x ≤ 9223372036854775807) (h : x = y) : AVal.int .i64 (IntKind.i64.wrap x) = .int .i64 y := by rw [w64 h1 h2, h]
theorem iE {k : IntKind} {x y : Int} (h : x = y) : AVal.int k x = .int k y := by rw [h]
section
variable {P : Program} {W0 : World} {G : List (Nat × AVal)} {m : Nat} {l : List (Nat × AVal)} {H H' : Hz} {n : Nat} {K : St → Prop} {r : List AOper} {g : Option (Nat × Bool)} {d : Nat} {op : AOp} {side : List (Int × Int)}
theorem mV {v : AVal} (h : aop G ⟨.al l, H, n⟩ op = some (.val v H' [])) (k : Ak P W0 G m r ⟨.al ((d, v) :: l), H', n⟩ K) (hg : Gr P W0 G := by assumption) (hgd : Gok g l := by first | exact gN | exact gS rfl) (hd : (Nat.blt d n && Nat.blt d 4094) = true := by rfl) : Ak P W0 G m (⟨some d, g, op⟩ :: r) ⟨.al l, H, n⟩ K := Ag hg hgd h hd trivial k
theorem mS {v : AVal} (h : aop G ⟨.al l, H, n⟩ op = some (.val v H' side)) (k : Ak P W0 G m r ⟨.al ((d, v) :: l), H', n⟩ K) (hg : Gr P W0 G := by assumption) (hgd : Gok g l := by first | exact gN | exact gS rfl) (hd : (Nat.blt d n && Nat.blt d 4094) = true := by rfl) (hs : Af side := by first | exact trivial | decide | (simp only [Ar, Au, Af, and_true, Av, lCo, lNi, lAp]; omega) | (simp only [Ar, Au, Af, and_true, C9, List.length_map]; omega)) : Ak P W0 G m (⟨some d, g, op⟩ :: r) ⟨.al l, H, n⟩ K := Ag hg hgd h hd hs k
theorem mG {t : Nat} {want : Bool} (k : Ak P W0 G m r ⟨.al ((d, .tup []) :: l), H, n⟩ K) (hg : Gr P W0 G := by assumption) (h : lk t l = some (.bool (!want)) := by rfl) (hd : (Nat.blt d n && Nat.blt d 4094) = true := by rfl) : Ak P W0 G m (⟨some d, some (t, want), op⟩ :: r) ⟨.al l, H, n⟩ K := mGN hg h hd k
theorem mK {v v0 : AVal} (h : aop G ⟨.al l, H, n⟩ op = some (.val v0 H' [])) (hv : v0 = v) (k : Ak P W0 G m r ⟨.al ((d, v) :: l), H', n⟩ K) (hg : Gr P W0 G := by assumption) (hgd : Gok g l := by first | exact gN | exact gS rfl) (hd : (Nat.blt d n && Nat.blt d 4094) = true := by rfl) : Ak P W0 G m (⟨some d, g, op⟩ :: r) ⟨.al l, H, n⟩ K := mKv hg hgd h hd trivial hv k
theorem mKs {v v0 : AVal} (h : aop G ⟨.al l, H, n⟩ op = some (.val v0 H' side)) (hv : v0 = v) (k : Ak P W0 G m r ⟨.al ((d, v) :: l), H', n⟩ K) (hg : Gr P W0 G := by assumption) (hgd : Gok g l := by first | exact gN | exact gS rfl) (hd : (Nat.blt d n && Nat.blt d 4094) = true := by rfl) (hs : Af side := by first | exact trivial | decide | (simp only [Ar, Au, Af, and_true, Av, lCo, lNi, lAp]; omega) | (simp only [Ar, Au, Af, and_true, C9, List.length_map]; omega)) : Ak P W0 G m (⟨some d, g, op⟩ :: r) ⟨.al l, H, n⟩ K := mKv hg hgd h hd hs hv k
theorem mI (x : Int) {y : Int} (h : aop G ⟨.al l, H, n⟩ op = some (.val (.int .i64 (IntKind.i64.wrap y)) H' side)) (k : Ak P W0 G m r ⟨.al ((d, .int .i64 x) :: l), H', n⟩ K) (hg : Gr P W0 G := by assumption) (hgd : Gok g l := by first | exact gN | exact gS rfl) (hd : (Nat.blt d n && Nat.blt d 4094) = true := by rfl) (hs : Af side := by first | exact trivial | decide | (simp only [Ar, Au, Af, and_true, Av, lCo, lNi, lAp]; omega) | (simp only [Ar, Au, Af, and_true, C9, List.length_map]; omega))
 (h1 : -9223372036854775808 ≤ y := by omega) (h2 : y ≤ 9223372036854775807 := by omega) (h3 : y = x := by omega) : Ak P W0 G m (⟨some d, g, op⟩ :: r) ⟨.al l, H, n⟩ K := mKv hg hgd h hd hs (B8 h1 h2 h3) k
theorem mT {b : Bool} (h : aop G ⟨.al l, H, n⟩ op = some (.val (.bool b) H [])) (k : Ak P W0 G m r ⟨.al ((d, .bool true) :: l), H, n⟩ K) (hg : Gr P W0 G := by assumption) (hgd : Gok g l := by first | exact gN | exact gS rfl) (hd : (Nat.blt d n && Nat.blt d 4094) = true := by rfl) (hb : b = true := by first | exact decide_eq_true (by omega) | (rw [beq_iff_eq]; omega) | (rw [bne_iff_ne]; omega) | decide) : Ak P W0 G m (⟨some d, g, op⟩ :: r) ⟨.al l, H, n⟩ K := mBk hg hgd h hd hb k
theorem mF {b : Bool} (h : aop G ⟨.al l, H, n⟩ op = some (.val (.bool b) H [])) (k : Ak P W0 G m r ⟨.al ((d, .bool false) :: l), H, n⟩ K) (hg : Gr P W0 G := by assumption) (hgd : Gok g l := by first | exact gN | exact gS rfl) (hd : (Nat.blt d n && Nat.blt d 4094) = true := by rfl) (hb : b = false := by first | exact dF (by omega) | (rw [bFn]; omega) | (rw [bNf]; omega) | decide) : Ak P W0 G m (⟨some d, g, op⟩ :: r) ⟨.al l, H, n⟩ K := mBk hg hgd h hd hb k
theorem mC {f : Nat} {args : List AVal} {v : AVal} (h : aop G ⟨.al l, H, n⟩ op = some (.call f args)) (hc : A1 P W0 f args H v H') (k : Ak P W0 G m r ⟨.al ((d, v) :: l), H', n⟩ K) (hg : Gr P W0 G := by assumption) (hgd : Gok g l := by first | exact gN | exact gS rfl) (hd : (Nat.blt d n && Nat.blt d 4094) = true := by rfl) : Ak P W0 G m (⟨some d, g, op⟩ :: r) ⟨.al l, H, n⟩ K := Zy hg hgd h hd hc k
theorem m2 {d0 d1 : Nat} {o0 o1 : AOp} {v0 v1 : AVal} {g0 g1 : Option (Nat × Bool)} {H0 H1 H2 : Hz} (h0 : aop G ⟨.al (l), H0, n⟩ o0 = some (.val v0 H1 [])) (h1 : aop G ⟨.al ((d0, v0) :: l), H1, n⟩ o1 = some (.val v1 H2 [])) (k : Ak P W0 G m r ⟨.al ((d1, v1) :: (d0, v0) :: l), H2, n⟩ K) (hg : Gr P W0 G := by assumption) (k0 : Gok g0 (l) := by first | exact gN | exact gS rfl) (b0 : (Nat.blt d0 n && Nat.blt d0 4094) = true := by rfl) (k1 : Gok g1 ((d0, v0) :: l) := by first | exact gN | exact gS rfl) (b1 : (Nat.blt d1 n && Nat.blt d1 4094) = true := by rfl) : Ak P W0 G m (⟨some d0, g0, o0⟩ :: ⟨some d1, g1, o1⟩ :: r) ⟨.al l, H0, n⟩ K := Ag hg k0 h0 b0 trivial (Ag hg k1 h1 b1 trivial (k))
theorem m3 {d0 d1 d2 : Nat} {o0 o1 o2 : AOp} {v0 v1 v2 : AVal} {g0 g1 g2 : Option (Nat × Bool)} {H0 H1 H2 H3 : Hz} (h0 : aop G ⟨.al (l), H0, n⟩ o0 = some (.val v0 H1 [])) (h1 : aop G ⟨.al ((d0, v0) :: l), H1, n⟩ o1 = some (.val v1 H2 [])) (h2 : aop G ⟨.al ((d1, v1) :: (d0, v0) :: l), H2, n⟩ o2 = some (.val v2 H3 [])) (k : Ak P W0 G m r ⟨.al ((d2, v2) :: (d1, v1) :: (d0, v0) :: l), H3, n⟩ K) (hg : Gr P W0 G := by assumption) (k0 : Gok g0 (l) := by first | exact gN | exact gS rfl) (b0 : (Nat.blt d0 n && Nat.blt d0 4094) = true := by rfl) (k1 : Gok g1 ((d0, v0) :: l) := by first | exact gN | exact gS rfl) (b1 : (Nat.blt d1 n && Nat.blt d1 4094) = true := by rfl) (k2 : Gok g2 ((d1, v1) :: (d0, v0) :: l) := by first | exact gN | exact gS rfl) (b2 : (Nat.blt d2 n && Nat.blt d2 4094) = true := by rfl) : Ak P W0 G m (⟨some d0, g0, o0⟩ :: ⟨some d1, g1, o1⟩ :: ⟨some d2, g2, o2⟩ :: r) ⟨.al l, H0, n⟩ K := Ag hg k0 h0 b0 trivial (Ag hg k1 h1 b1 trivial (Ag hg k2 h2 b2 trivial (k)))
theorem m4 {d0 d1 d2 d3 : Nat} {o0 o1 o2 o3 : AOp} {v0 v1 v2 v3 : AVal} {g0 g1 g2 g3 : Option (Nat × Bool)} {H0 H1 H2 H3 H4 : Hz} (h0 : aop G ⟨.al (l), H0, n⟩ o0 = some (.val v0 H1 [])) (h1 : aop G ⟨.al ((d0, v0) :: l), H1, n⟩ o1 = some (.val v1 H2 [])) (h2 : aop G ⟨.al ((d1, v1) :: (d0, v0) :: l), H2, n⟩ o2 = some (.val v2 H3 [])) (h3 : aop G ⟨.al ((d2, v2) :: (d1, v1) :: (d0, v0) :: l), H3, n⟩ o3 = some (.val v3 H4 [])) (k : Ak P W0 G m r ⟨.al ((d3, v3) :: (d2, v2) :: (d1, v1) :: (d0, v0) :: l), H4, n⟩ K) (hg : Gr P W0 G := by assumption) (k0 : Gok g0 (l) := by first | exact gN | exact gS rfl) (b0 : (Nat.blt d0 n && Nat.blt d0 4094) = true := by rfl) (k1 : Gok g1 ((d0, v0) :: l) := by first | exact gN | exact gS rfl) (b1 : (Nat.blt d1 n && Nat.blt d1 4094) = true := by rfl) (k2 : Gok g2 ((d1, v1) :: (d0, v0) :: l) := by first | exact gN | exact gS rfl) (b2 : (Nat.blt d2 n && Nat.blt d2 4094) = true := by rfl) (k3 : Gok g3 ((d2, v2) :: (d1, v1) :: (d0, v0) :: l) := by first | exact gN | exact gS rfl) (b3 : (Nat.blt d3 n && Nat.blt d3 4094) = true := by rfl) : Ak P W0 G m (⟨some d0, g0, o0⟩ :: ⟨some d1, g1, o1⟩ :: ⟨some d2, g2, o2⟩ :: ⟨some d3, g3, o3⟩ :: r) ⟨.al l, H0, n⟩ K := Ag hg k0 h0 b0 trivial (Ag hg k1 h1 b1 trivial (Ag hg k2 h2 b2 trivial (Ag hg k3 h3 b3 trivial (k))))
theorem x1 {d0 : Nat} {o0 : AOp} {v0 : AVal} {g0 : Option (Nat × Bool)} {H0 H1 : Hz} (h0 : aop G ⟨.al (l), H0, n⟩ o0 = some (.val v0 H1 [])) (k : K ⟨.al ((d0, v0) :: l), H1, n⟩) (hg : Gr P W0 G := by assumption) (k0 : Gok g0 (l) := by first | exact gN | exact gS rfl) (b0 : (Nat.blt d0 n && Nat.blt d0 4094) = true := by rfl) : Ak P W0 G m (⟨some d0, g0, o0⟩ :: []) ⟨.al l, H0, n⟩ K := Ag hg k0 h0 b0 trivial (Eu k)
theorem x2 {d0 d1 : Nat} {o0 o1 : AOp} {v0 v1 : AVal} {g0 g1 : Option (Nat × Bool)} {H0 H1 H2 : Hz} (h0 : aop G ⟨.al (l), H0, n⟩ o0 = some (.val v0 H1 [])) (h1 : aop G ⟨.al ((d0, v0) :: l), H1, n⟩ o1 = some (.val v1 H2 [])) (k : K ⟨.al ((d1, v1) :: (d0, v0) :: l), H2, n⟩) (hg : Gr P W0 G := by assumption) (k0 : Gok g0 (l) := by first | exact gN | exact gS rfl) (b0 : (Nat.blt d0 n && Nat.blt d0 4094) = true := by rfl) (k1 : Gok g1 ((d0, v0) :: l) := by first | exact gN | exact gS rfl) (b1 : (Nat.blt d1 n && Nat.blt d1 4094) = true := by rfl) : Ak P W0 G m (⟨some d0, g0, o0⟩ :: ⟨some d1, g1, o1⟩ :: []) ⟨.al l, H0, n⟩ K := Ag hg k0 h0 b0 trivial (Ag hg k1 h1 b1 trivial (Eu k))
theorem x3 {d0 d1 d2 : Nat} {o0 o1 o2 : AOp} {v0 v1 v2 : AVal} {g0 g1 g2 : Option (Nat × Bool)} {H0 H1 H2 H3 : Hz} (h0 : aop G ⟨.al (l), H0, n⟩ o0 = some (.val v0 H1 [])) (h1 : aop G ⟨.al ((d0, v0) :: l), H1, n⟩ o1 = some (.val v1 H2 [])) (h2 : aop G ⟨.al ((d1, v1) :: (d0, v0) :: l), H2, n⟩ o2 = some (.val v2 H3 [])) (k : K ⟨.al ((d2, v2) :: (d1, v1) :: (d0, v0) :: l), H3, n⟩) (hg : Gr P W0 G := by assumption) (k0 : Gok g0 (l) := by first | exact gN | exact gS rfl) (b0 : (Nat.blt d0 n && Nat.blt d0 4094) = true := by rfl) (k1 : Gok g1 ((d0, v0) :: l) := by first | exact gN | exact gS rfl) (b1 : (Nat.blt d1 n && Nat.blt d1 4094) = true := by rfl) (k2 : Gok g2 ((d1, v1) :: (d0, v0) :: l) := by first | exact gN | exact gS rfl) (b2 : (Nat.blt d2 n && Nat.blt d2 4094) = true := by rfl) : Ak P W0 G m (⟨some d0, g0, o0⟩ :: ⟨some d1, g1, o1⟩ :: ⟨some d2, g2, o2⟩ :: []) ⟨.al l, H0, n⟩ K := Ag hg k0 h0 b0 trivial (Ag hg k1 h1 b1 trivial (Ag hg k2 h2 b2 trivial (Eu k)))
theorem x4 {d0 d1 d2 d3 : Nat} {o0 o1 o2 o3 : AOp} {v0 v1 v2 v3 : AVal} {g0 g1 g2 g3 : Option (Nat × Bool)} {H0 H1 H2 H3 H4 : Hz} (h0 : aop G ⟨.al (l), H0, n⟩ o0 = some (.val v0 H1 [])) (h1 : aop G ⟨.al ((d0, v0) :: l), H1, n⟩ o1 = some (.val v1 H2 [])) (h2 : aop G ⟨.al ((d1, v1) :: (d0, v0) :: l), H2, n⟩ o2 = some (.val v2 H3 [])) (h3 : aop G ⟨.al ((d2, v2) :: (d1, v1) :: (d0, v0) :: l), H3, n⟩ o3 = some (.val v3 H4 [])) (k : K ⟨.al ((d3, v3) :: (d2, v2) :: (d1, v1) :: (d0, v0) :: l), H4, n⟩) (hg : Gr P W0 G := by assumption) (k0 : Gok g0 (l) := by first | exact gN | exact gS rfl) (b0 : (Nat.blt d0 n && Nat.blt d0 4094) = true := by rfl) (k1 : Gok g1 ((d0, v0) :: l) := by first | exact gN | exact gS rfl) (b1 : (Nat.blt d1 n && Nat.blt d1 4094) = true := by rfl) (k2 : Gok g2 ((d1, v1) :: (d0, v0) :: l) := by first | exact gN | exact gS rfl) (b2 : (Nat.blt d2 n && Nat.blt d2 4094) = true := by rfl) (k3 : Gok g3 ((d2, v2) :: (d1, v1) :: (d0, v0) :: l) := by first | exact gN | exact gS rfl) (b3 : (Nat.blt d3 n && Nat.blt d3 4094) = true := by rfl) : Ak P W0 G m (⟨some d0, g0, o0⟩ :: ⟨some d1, g1, o1⟩ :: ⟨some d2, g2, o2⟩ :: ⟨some d3, g3, o3⟩ :: []) ⟨.al l, H0, n⟩ K := Ag hg k0 h0 b0 trivial (Ag hg k1 h1 b1 trivial (Ag hg k2 h2 b2 trivial (Ag hg k3 h3 b3 trivial (Eu k))))
theorem mn {s : St} (h : K s) : Ak P W0 G m [] s K := Eu h
end
section
variable {P : Program} {W0 : World} {G : List (Nat × AVal)} {m : Nat} {s : St} {K : Am → St → Prop}
theorem sq {x y : ACode} (h : ExM P W0 m x s fun e s' => e.then s' (fun s' => ExM P W0 m y s' K) K) : ExM P W0 m (.seq x y) s K := ExM.seq h
theorem oM {x : List AOper} (h : Ak P W0 G m x s (K .normal)) (hg : Gr P W0 G := by assumption) : ExM P W0 m (.ops x) s K := ExM.ops hg h
theorem sO {x : List AOper} {y : ACode} (h : Ak P W0 G m x s fun s' => Am.then .normal s' (fun s' => ExM P W0 m y s' K) K) (hg : Gr P W0 G := by assumption) : ExM P W0 m (.seq (.ops x) y) s K := ExM.seq (ExM.ops hg h)
theorem bM {id : Nat} {x : ACode} (h : ExM P W0 m x s (Am.inBlock id K)) : ExM P W0 m (.block id x) s K := ExM.block h
theorem kM (h : K .normal s) : ExM P W0 m .skip s K := ExM.skip h
theorem cT {c : AOpd} {x y : ACode} (hv : ev G s c = some (.bool true)) (h : ExM P W0 m x s K) (hg : Gr P W0 G := by assumption) : ExM P W0 m (.cond c x y) s K := ExM.condT hg hv h
theorem cF {c : AOpd} {x y : ACode} (hv : ev G s c = some (.bool false)) (h : ExM P W0 m y s K) (hg : Gr P W0 G := by assumption) : ExM P W0 m (.cond c x y) s K := ExM.condF hg hv h
end
theorem oF {P : Program} {W0 : World} {f : Nat} {x : AFn} (hf : Ab P f = some x) {args : List AVal} {H : Hz} {v : AVal} {H' : Hz} (h : ExM P W0 H.length x.code ⟨.al (Fh 0 args), H, args.length + (x.n - args.length)⟩ (Lp x.res H.length v H')) (hl : args.length ≤ 4094 := by simp) : A1 P W0 f args H v H' := A1.of_fnM hf hl rfl h
section
variable {rs : List RV} {n : Nat} {v : AVal} {H' : Hz} {e : Am} {s : St} {vs : List AVal}
theorem pS (he : (match e with | .exit _ => False | _ => True) := by trivial) (h1 : Is s rs = some vs := by rfl) (h2 : Hw vs = v := by rfl) (h3 : s.H = H' := by rfl) : Lp rs n v H' e s := A4 he h1 h2 h3
theorem pL (he : (match e with | .exit _ => False | _ => True) := by trivial) (h1 : Is s rs = some vs := by rfl) (h2 : B2 n (s.H.take n) = true := by rfl) (h3 : frz s.H n 100 (Hw vs) = some v := by rfl) (h4 : s.H.take n = H' := by rfl) : Lp rs n v H' e s := A0 he h1 h2 100 h3 h4
end
section
variable {P : Program} {W0 : World} {G : List (Nat × AVal)} {l : List (Nat × AVal)} {H H' : Hz} {n : Nat} {K : St → Prop} {r : List AOper}
theorem lV {d : Nat} {op : AOp} {v : AVal} (h : aop G ⟨.al l, H, n⟩ op = some (.val v H' [])) (k : Ea P W0 G r ⟨.al ((d, v) :: l), H', n⟩ K) (hd : (Nat.blt d n && Nat.blt d 4094) = true := by rfl) : Ea P W0 G (⟨some d, none, op⟩ :: r) ⟨.al l, H, n⟩ K := lVal h hd trivial k
theorem ln (h : K ⟨.al l, H, n⟩) : Ea P W0 G [] ⟨.al l, H, n⟩ K := h
theorem qV {d : Nat} {op : AOp} {v : AVal} (h : aop G ⟨.al l, H, n⟩ op = some (.val v H [])) (k : Bi P W0 G r ⟨.al ((d, v) :: l), H, n⟩ K) (hd : (Nat.blt d n && Nat.blt d 4094) = true := by rfl) : Bi P W0 G (⟨some d, none, op⟩ :: r) ⟨.al l, H, n⟩ K := B1 h hd trivial k
end
section
variable {P : Program} {W0 : World} {G : List (Nat × AVal)} {s : St} {K : Am → St → Prop}
theorem sa {x y : ACode} (h : ExA P W0 x s fun e s' => e.then s' (fun s' => ExA P W0 y s' K) K) : ExA P W0 (.seq x y) s K := ExA.seq h
theorem oA {x : List AOper} (h : Ea P W0 G x s (K .normal)) (hg : Gr P W0 G := by assumption) : ExA P W0 (.ops x) s K := ExA.ops hg h
theorem sA {x : List AOper} {y : ACode} (h : Ea P W0 G x s fun s' => Am.then .normal s' (fun s' => ExA P W0 y s' K) K) (hg : Gr P W0 G := by assumption) : ExA P W0 (.seq (.ops x) y) s K := ExA.seq (ExA.ops hg h)
theorem kA (h : K .normal s) : ExA P W0 .skip s K := ExA.skip h
theorem aT {c : AOpd} {x y : ACode} (hv : ev G s c = some (.bool true)) (h : ExA P W0 x s K) (hg : Gr P W0 G := by assumption) : ExA P W0 (.cond c x y) s K := ExA.condT hg hv h
theorem aF {c : AOpd} {x y : ACode} (hv : ev G s c = some (.bool false)) (h : ExA P W0 y s K) (hg : Gr P W0 G := by assumption) : ExA P W0 (.cond c x y) s K := ExA.condF hg hv h
end
end Go.Abs
namespace Go.Abs
open Go.RowKit Go.Proofs
variable {P : Program} {W0 : World} {F : Nat → Prop} {bs : List Nat} {H : Hz} {w : World}
def hasB (P : Program) (f : Nat) : Bool :=
 match P.funcs[f]? with
 | some fn => fn.body.isSome && !(fn.name == "runtime.NumGoroutine")
 | none => false
theorem Gj {f : Nat} (h : hasB P f = true) : E1 P f := by
 unfold hasB at h
 split at h
 · rename_i fn hf
   simp only [bAt, Bool.not_eq_true', bFn] at h
   obtain ⟨c, hc⟩ := Option.isSome_iff_exists.1 h.1
   exact ⟨fn, c, hf, hc, h.2⟩
 · cases h
theorem A19 {w' : World} (hb : Below w.heap.size w w') (hl : ∀ (i : Nat) (o : A2), H[i]? = some o → ∀ b, bs[i]? = some b → b < w.heap.size) : Ext bs H w bs H w' := by
 refine ⟨hb.size, fun k hk _ => hb.block k hk, fun k hk => .inl hk, fun i o ho => ⟨o, ho, ?_⟩⟩
 cases o with
 | dead => simp [B0]
 | iter s p => exact .inr ⟨s, p, rfl, rfl⟩
 | mp es => exact .inr ⟨es, rfl, rfl⟩
 | cells T cs op =>
   cases op with
   | false => exact .inr ⟨T, cs, rfl, rfl, rfl⟩
   | true =>
     refine .inr ⟨T, cs, rfl, .inr ⟨rfl, rfl, fun b hbb => ?_⟩⟩
     have := hb.block b (hl i _ ho b hbb)
     unfold Bv
     rw [this]
theorem A7.below {w' : World} (hh : A7 W0 F bs H w) (hb : Below w.heap.size w w') : A7 W0 F bs H w' ∧ Ext bs H w bs H w' := by
 have he : Ext bs H w bs H w' := A19 hb (fun i o ho b hbb => (hh.low b (mGe hbb)).2)
 have h0 : W0.heap.size ≤ w.heap.size := hh.base.size
 refine ⟨⟨hh.len, hh.base.trans ⟨hb.os, hb.tape, hb.output, hb.size, fun k hk => hb.block k (by omega)⟩, fun b hbm => ⟨(hh.low b hbm).1, nLl (hh.low b hbm).2 hb.size⟩, hh.nodup, fun b hF => ⟨(hh.forb b hF).1, nLl (hh.forb b hF).2.1 hb.size, (hh.forb b hF).2.2⟩, fun i o b ho hbb => ?_⟩, he⟩
 have hlt := (hh.low b (mGe hbb)).2
 have hblk := hb.block b hlt
 have h1 := hh.obj i o b ho hbb
 cases o with
 | dead => trivial
 | iter s p => simp only [Gm] at h1 ⊢; rw [hblk]; exact h1
 | mp es => simp only [Gm] at h1 ⊢; rw [hblk]; exact h1
 | cells T cs op =>
   cases op with
   | false => simp only [Gm] at h1 ⊢; obtain ⟨vs, rest, fr, q1, q2, q3⟩ := h1; exact ⟨vs, rest, fr, by rw [hblk]; exact q1, A5.ext he _ _ q2, q3⟩
   | true => simp only [Gm] at h1 ⊢; obtain ⟨vs, rest, fr, q1, q2, q3⟩ := h1; exact ⟨vs, rest, fr, by rw [hblk]; exact q1, A5.ext he _ _ q2, q3⟩
theorem A1.of_below {f : Nat} {args : List AVal} {v : AVal} (hb : hasB P f = true)
 (h : ∀ (F : Nat → Prop) (bs : List Nat) (w : World) (cargs : List Value), A7 W0 F bs H w → A5 F bs H w args cargs → Calls P f cargs.toArray w fun e w' => ∃ cv, e = .returned cv ∧ Rep F bs H w' v cv ∧ Below w.heap.size w w') : A1 P W0 f args H v H := by
 refine ⟨Gj hb, fun F bs w cargs hh hr => (h F bs w cargs hh hr).mono ?_⟩
 rintro e w' ⟨cv, rfl, h1, h2⟩
 obtain ⟨k1, k2⟩ := hh.below h2
 exact ⟨cv, bs, rfl, h1, k1, k2⟩
theorem Pm (w : World) : ∀ n, Below w.heap.size w (w.drewN n)
 | 0 => Below.refl _ _
 | n + 1 => (Pm w n).drew
theorem Yc {W w' : World} (h : Below W.heap.size W w') (os : Array Obj) : Below W.heap.size W (Go.Sort.grow w' os) := by
 refine ⟨h.os, h.tape, h.output, Nat.le_trans h.size (by simp [Go.Sort.grow]), fun k hk => ?_⟩
 rw [← h.block k hk]
 have : k < w'.heap.size := nLl hk h.size
 simp [Go.Sort.grow, Array.getElem?_append, this]
theorem tabs_of (hh : A7 W0 F bs H w) {g3 g4 : Nat} (hT : Lib.Utf8Tabs g3 g4 W0) : Lib.Utf8Tabs g3 g4 w := Utf8Tabs_below hT hh.base
theorem cell_of (hh : A7 W0 F bs H w) {g : Nat} {v : Value} (h : W0.cell? ⟨g, 0, none⟩ = some v) : w.cell? ⟨g, 0, none⟩ = some v := by
 rw [← h]
 exact World.cell?_of_block (a := ⟨g, 0, none⟩) (hh.base.block g (World.block_lt_of_cell? W0 ⟨g, 0, none⟩ h))
end Go.Abs
namespace Go.Abs
open Go.RowKit
def Ta (P : Program) (g : FuncId) (m : Nat) : Prop := ∀ (args : List Value) (w : World), args.length = m → CallsD P g args.toArray .returning w fun e u' w' => e = .returned (.tuple #[]) ∧ u' = .returning ∧ w' = w
section
variable {P : Program} {W0 : World} {G : List (Nat × AVal)} {F : Nat → Prop} {bs : List Nat} {s : St} {a : Act} {w : World}
theorem Xi (hg : GOK W0 G) {id t : Nat} {g : FuncId} {ops : Array Oper} {o0 o1 : Oper} (hops : ops = #[o0, o1]) (h1g : o1.guard = none) (h1d : o1.dst = none) (h1c : ∃ c, o1.op = .defer c ∧ c.callee = .value (.tmp t) ∧ c.args = #[])
 (hs : RS W0 F bs s a w) {K : St → Prop} {m : Nat} (h0 : Gu P W0 G ops o0 s fun s' => (∃ c, s'.env.get t = some (.fn g [] c) ∧ c.length = m) ∧ K s') {Q : Exit → Act → World → Prop}
 (hn : ∀ s' bs' a' w' (cap : List Value), cap.length = m → K s' → RS W0 F bs' s' a' w' → Ext bs s.H w bs' s'.H w' → a'.defers = ⟨.fn (.func g) cap.toArray, #[]⟩ :: a.defers → Q .normal a' w') : (Code.region id ops false).wp P Q a w := by
 refine wp_region ?_
 subst hops
 have hr : List.range (#[o0, o1] : Array Oper).size = [0, 1] := rfl
 rw [hr]
 simp only [wpOps, List.getElem?_toArray, List.getElem?_cons_zero, List.getElem?_cons_succ]
 refine J1 hg hs h0 fun s' bs' a' w' hk hrs hext hdf => ?_
 obtain ⟨⟨c, hc, hcl⟩, hK⟩ := hk
 have hrep := hrs.env t _ hc
 simp only [Rep, A5] at hrep
 obtain ⟨fs, cs, hv, rfl, hcs⟩ := hrep
 obtain ⟨cl, hop, hcal, hargs⟩ := h1c
 have hw : Region.wanted o1 (yielded #[o0, o1] a'.tmps) = true := by simp [Region.wanted, h1g]
 rw [if_pos hw]
 refine .inl ?_
 have hexec : (execOp a'.eval o1).run P w' = .ok (.defer ⟨.fn (.func g) cs.toArray, #[]⟩) w' := by
  have hev : a'.eval (.tmp t) = .func (.func g) #[] cs.toArray := by
   show a'.tmps.getD t undef = _
   exact hv
  simp [execOp, hop, resolve, hcal, hargs, hev, Deferred.ofValue]
 unfold Oper.wp
 rw [hexec, Oper.upon_defer]
 have hput : ({ a' with defers := ⟨.fn (.func g) cs.toArray, #[]⟩ :: a'.defers } : Act).put o1.dst undef = { a' with defers := ⟨.fn (.func g) cs.toArray, #[]⟩ :: a'.defers } := by rw [h1d]; rfl
 rw [hput]
 refine hn s' bs' _ w' cs (by rw [hcs.length, hcl]) hK ⟨hrs.heap, hrs.size, hrs.env⟩ hext ?_
 simp only [hdf]
theorem A1.of_defer (hg : GOK W0 G) {f : FuncId} {fn : Func} {r0 r1 rest : Code} {id t : Nat} {g : FuncId} {ops : Array Oper} {o0 o1 : Oper} (hf : P.funcs[f]? = some fn) (hb : fn.body = some (.seq r0 (.seq r1 (.seq (.region id ops false) rest))))
 (hnm : fn.name ≠ "runtime.NumGoroutine") {m : Nat} (hidle : Ta P g m) (hgb : E1 P g)
 (hops : ops = #[o0, o1]) (h1g : o1.guard = none) (h1d : o1.dst = none) (h1c : ∃ c, o1.op = .defer c ∧ c.callee = .value (.tmp t) ∧ c.args = #[])
 {args : List AVal} {H : Hz} {v : AVal} {H' : Hz} (hl : args.length ≤ 4094)
 (h : Ex P W0 r0 ⟨Ed 0 args .leaf, H, args.length + (fn.ntmps - args.length)⟩ fun e s0 => e = .normal ∧ Ex P W0 r1 s0 fun e s1 => e = .normal ∧ Gu P W0 G ops o0 s1 fun s2 => (∃ c, s2.env.get t = some (.fn g [] c) ∧ c.length = m) ∧
  Ex P W0 rest s2 fun e s' => (match e with | .exit _ => False | _ => True) ∧ ∃ vs, D3 P s' fn.results.toList = some vs ∧ (J4 H.length (Hw vs) s'.H = (v, H') ∨ (Hw vs, s'.H) = (v, H'))) :
 A1 P W0 f args H v H' := by
 refine ⟨⟨fn, _, hf, hb, hnm⟩, fun F bs w cargs hh hr => ?_⟩
 refine calls_of_wp_defers hf hb ?_
 refine wp_seq (h F bs _ w (Ez hh hr hl fn.ntmps) _ fun e s0 bs0 a0 w0 hk hrs0 hext0 hd0 => ?_)
 obtain ⟨rfl, hk⟩ := hk
 show (Code.seq r1 _).wp P _ a0 w0
 refine wp_seq (hk F bs0 a0 w0 hrs0 _ fun e s1 bs1 a1 w1 hk hrs1 hext1 hd1 => ?_)
 obtain ⟨rfl, hk⟩ := hk
 show (Code.seq _ rest).wp P _ a1 w1
 refine wp_seq (Xi hg hops h1g h1d h1c hrs1 hk fun s2 bs2 a2 w2 cap hcap hk hrs2 hext2 hd2 => ?_)
 show rest.wp P _ a2 w2
 refine hk F bs2 a2 w2 hrs2 _ fun e s' bs' a' w' hk hrs hext hd => ?_
 obtain ⟨hne, vs, hvs, hlv⟩ := hk
 obtain ⟨cv, h1, h2⟩ := Eh hrs hvs
 have hextA : Ext bs H w bs' s'.H w' := ((hext0.trans hext1).trans hext2).trans hext
 have hlast : ∃ bs'', Rep F bs'' H' w' v cv ∧ A7 W0 F bs'' H' w' ∧ Ext bs H w bs'' H' w' := by
  rcases hlv with hlv | hlv
  · obtain ⟨bs'', h3, h4, h5⟩ := Ns hrs.heap hextA h2
    rw [hlv] at h3 h4 h5
    exact ⟨bs'', h3, h4, h5⟩
  · injection hlv with e1 e2
    subst e1; subst e2
    exact ⟨bs', h2, hrs.heap, hextA⟩
 obtain ⟨bs'', h3, h4, h5⟩ := hlast
 have hdef : a'.defers = [⟨.fn (.func g) cap.toArray, #[]⟩] := by rw [hd, hd2, hd1, hd0]
 have hinv : (invoke (.fn (.func g) cap.toArray) #[]).run P w' = .ok (.enter g cap.toArray) w' := by
  obtain ⟨fg, cg, k1, k2, k3⟩ := hgb
  show (callFunc g (#[] ++ cap.toArray)).run P w' = _
  simp [callFunc, k1, k2, k3, mark]
 have fin : Leaves P fn a'.tmps (fun e w' => ∃ cv bs', e = .returned cv ∧ Rep F bs' H' w' v cv ∧ A7 W0 F bs' H' w' ∧ Ext bs H w bs' H' w') a'.defers .returning w' := by
  rw [hdef]
  refine ⟨by simp, .func g, cap.toArray, g, cap.toArray, rfl, hinv, ?_⟩
  refine (hidle cap w' hcap).mono ?_
  rintro e u' w'' ⟨rfl, rfl, rfl⟩
  exact ⟨cv, h1, cv, bs'', rfl, h3, h4, h5⟩
 cases e with
 | normal => exact fin
 | ret => exact fin
 | exit id => exact hne.elim
theorem A1.of_defer1 (hg : GOK W0 G) {f : FuncId} {fn : Func} {r0 rest : Code} {id t : Nat} {g : FuncId} {ops : Array Oper} {o0 o1 : Oper} (hf : P.funcs[f]? = some fn) (hb : fn.body = some (.seq r0 (.seq (.region id ops false) rest)))
 (hnm : fn.name ≠ "runtime.NumGoroutine") {m : Nat} (hidle : Ta P g m) (hgb : E1 P g)
 (hops : ops = #[o0, o1]) (h1g : o1.guard = none) (h1d : o1.dst = none) (h1c : ∃ c, o1.op = .defer c ∧ c.callee = .value (.tmp t) ∧ c.args = #[])
 {args : List AVal} {H : Hz} {v : AVal} {H' : Hz} (hl : args.length ≤ 4094)
 (h : Ex P W0 r0 ⟨Ed 0 args .leaf, H, args.length + (fn.ntmps - args.length)⟩ fun e s1 => e = .normal ∧ Gu P W0 G ops o0 s1 fun s2 => (∃ c, s2.env.get t = some (.fn g [] c) ∧ c.length = m) ∧
  Ex P W0 rest s2 fun e s' => (match e with | .exit _ => False | _ => True) ∧ ∃ vs, D3 P s' fn.results.toList = some vs ∧ (J4 H.length (Hw vs) s'.H = (v, H') ∨ (Hw vs, s'.H) = (v, H'))) :
 A1 P W0 f args H v H' := by
 refine ⟨⟨fn, _, hf, hb, hnm⟩, fun F bs w cargs hh hr => ?_⟩
 refine calls_of_wp_defers hf hb ?_
 refine wp_seq (h F bs _ w (Ez hh hr hl fn.ntmps) _ fun e s1 bs1 a1 w1 hk hrs1 hext1 hd1 => ?_)
 obtain ⟨rfl, hk⟩ := hk
 show (Code.seq _ rest).wp P _ a1 w1
 refine wp_seq (Xi hg hops h1g h1d h1c hrs1 hk fun s2 bs2 a2 w2 cap hcap hk hrs2 hext2 hd2 => ?_)
 show rest.wp P _ a2 w2
 refine hk F bs2 a2 w2 hrs2 _ fun e s' bs' a' w' hk hrs hext hd => ?_
 obtain ⟨hne, vs, hvs, hlv⟩ := hk
 obtain ⟨cv, h1, h2⟩ := Eh hrs hvs
 have hextA : Ext bs H w bs' s'.H w' := (hext1.trans hext2).trans hext
 have hlast : ∃ bs'', Rep F bs'' H' w' v cv ∧ A7 W0 F bs'' H' w' ∧ Ext bs H w bs'' H' w' := by
  rcases hlv with hlv | hlv
  · obtain ⟨bs'', h3, h4, h5⟩ := Ns hrs.heap hextA h2
    rw [hlv] at h3 h4 h5
    exact ⟨bs'', h3, h4, h5⟩
  · injection hlv with e1 e2
    subst e1; subst e2
    exact ⟨bs', h2, hrs.heap, hextA⟩
 obtain ⟨bs'', h3, h4, h5⟩ := hlast
 have hdef : a'.defers = [⟨.fn (.func g) cap.toArray, #[]⟩] := by rw [hd, hd2, hd1]
 have hinv : (invoke (.fn (.func g) cap.toArray) #[]).run P w' = .ok (.enter g cap.toArray) w' := by
  obtain ⟨fg, cg, k1, k2, k3⟩ := hgb
  show (callFunc g (#[] ++ cap.toArray)).run P w' = _
  simp [callFunc, k1, k2, k3, mark]
 have fin : Leaves P fn a'.tmps (fun e w' => ∃ cv bs', e = .returned cv ∧ Rep F bs' H' w' v cv ∧ A7 W0 F bs' H' w' ∧ Ext bs H w bs' H' w') a'.defers .returning w' := by
  rw [hdef]
  refine ⟨by simp, .func g, cap.toArray, g, cap.toArray, rfl, hinv, ?_⟩
  refine (hidle cap w' hcap).mono ?_
  rintro e u' w'' ⟨rfl, rfl, rfl⟩
  exact ⟨cv, h1, cv, bs'', rfl, h3, h4, h5⟩
 cases e with
 | normal => exact fin
 | ret => exact fin
 | exit id => exact hne.elim
end
structure DB where
 r0 : Code
 r1 : Code
 id : Nat
 o0 : Oper
 o1 : Oper
 rest : Code
 t : Nat
 g : Nat
 m : Nat
def Vn (t : Nat) (o : Oper) : Bool :=
 match o.op with
 | .defer c => match c.callee with
   | .value (.tmp u) => Nat.beq t u && Nat.beq c.args.size 0
   | _ => false
 | _ => false
def Rb (idle : Nat → Option Nat) (r0 r1 : Code) (id : Nat) (rest : Code) : List Oper → Option DB
 | [o0, o1] => match o0.op with
   | .makeFunc (.func g) _ _ => match o0.dst with
     | some t => match o1.guard with
       | none => match o1.dst with
         | none => match idle g with
           | some m => cond (Vn t o1) (some ⟨r0, r1, id, o0, o1, rest, t, g, m⟩) none
           | none => none
         | some _ => none
       | some _ => none
     | none => none
   | _ => none
 | _ => none
def La (idle : Nat → Option Nat) : Code → Option DB
 | .seq r0 (.seq r1 (.seq (.region id ops false) rest)) => Rb idle r0 r1 id rest ops.toList
 | _ => none
def Re (idle : Nat → Option Nat) : Code → Option DB
 | .seq r0 (.seq (.region id ops false) rest) => Rb idle r0 .skip id rest ops.toList
 | _ => none
def A2n (P : Program) (G : List (Nat × AVal)) (call : CallF) (draw : Array Oper → St → Option St) (fuel : Nat) (b : DB) (s : St) : Option (Am × St) :=
 match Q4 P G call draw fuel b.r0 s with
 | some (.normal, s1) => match Wv P G call #[b.o0, b.o1] b.o0 s1 with
   | some s2 => cond (match s2.env.get b.t with
     | some (.fn g' [] c) => Nat.beq b.g g' && Nat.beq c.length b.m
     | _ => false) (Q4 P G call draw fuel b.rest s2) none
   | none => none
 | _ => none
def A1a (e : Env) (t g m : Nat) : Bool :=
 match e.get t with
 | some (.fn g' [] c) => Nat.beq g g' && Nat.beq c.length m
 | _ => false
def A36 (P : Program) (fn : Func) (kp : Bool) (H : Hz) : Option (Am × St) → Option (AVal × Hz)
 | some (e, s) => match e with
   | .exit _ => none
   | _ => match D3 P s fn.results.toList with
     | some vs => some (cond kp (Hw vs, s.H) (J4 H.length (Hw vs) s.H))
     | none => none
 | none => none
def runDB (P : Program) (G : List (Nat × AVal)) (call : CallF) (draw : Array Oper → St → Option St) (fuel : Nat) (b : DB) (s : St) : Option (Am × St) :=
 match Q4 P G call draw fuel b.r0 s with
 | some (.normal, s0) => match Q4 P G call draw fuel b.r1 s0 with
   | some (.normal, s1) => match Wv P G call #[b.o0, b.o1] b.o0 s1 with
     | some s2 => cond (A1a s2.env b.t b.g b.m) (Q4 P G call draw fuel b.rest s2) none
     | none => none
   | _ => none
 | _ => none
def Hg (P : Program) (G : List (Nat × AVal)) (keep : Nat → Bool) (idle : Nat → Option Nat) (tab : CallF) (draw : CallF → Array Oper → St → Option St) (fuel : Nat) : Nat → CallF
 | 0, _, _, _ => none
 | d + 1, f, args, H => match tab f args H with
   | some r => some r
   | none => match P.funcs[f]? with
     | some fn => match fn.body with
       | some c => cond (Nat.ble args.length 4094 && !(fn.name == "runtime.NumGoroutine")) (A36 P fn (keep f) H (match La idle c with
        | some b => runDB P G (Hg P G keep idle tab draw fuel d) (draw (Hg P G keep idle tab draw fuel d)) fuel b ⟨Ed 0 args .leaf, H, args.length + (fn.ntmps - args.length)⟩
        | none => match Re idle c with
          | some b => A2n P G (Hg P G keep idle tab draw fuel d) (draw (Hg P G keep idle tab draw fuel d)) fuel b ⟨Ed 0 args .leaf, H, args.length + (fn.ntmps - args.length)⟩
          | none => Q4 P G (Hg P G keep idle tab draw fuel d) (draw (Hg P G keep idle tab draw fuel d)) fuel c ⟨Ed 0 args .leaf, H, args.length + (fn.ntmps - args.length)⟩)) none
       | none => none
     | none => none
theorem R2 {idle : Nat → Option Nat} {r0 r1 : Code} {id : Nat} {rest : Code} {l : List Oper} {b : DB} (h : Rb idle r0 r1 id rest l = some b) :
 b.r0 = r0 ∧ b.r1 = r1 ∧ b.id = id ∧ b.rest = rest ∧ l = [b.o0, b.o1] ∧ b.o1.guard = none ∧ b.o1.dst = none ∧ (∃ c, b.o1.op = .defer c ∧ c.callee = .value (.tmp b.t) ∧ c.args = #[]) ∧ idle b.g = some b.m := by
 unfold Rb at h
 split at h
 · rename_i o0 o1
   split at h
   · split at h
     · rename_i t _
       split at h
       · rename_i hg
         split at h
         · rename_i hd
           split at h
           · rename_i m hm
             cases hc : Vn t o1 with
             | false => rw [hc] at h; cases h
             | true =>
               rw [hc, cond_true] at h
               injection h with h
               subst h
               refine ⟨rfl, rfl, rfl, rfl, rfl, hg, hd, ?_, hm⟩
               unfold Vn at hc
               split at hc
               · rename_i c hop
                 split at hc
                 · rename_i u hcal
                   simp only [bAt] at hc
                   have h1 := nBq hc.1
                   have h2 := nBq hc.2
                   subst h1
                   exact ⟨c, hop, hcal, Array.eq_empty_of_size_eq_zero h2⟩
                 · cases hc
               · cases hc
           · cases h
         · cases h
       · cases h
     · cases h
   · cases h
 · cases h
theorem Qq {P : Program} {W0 : World} {G : List (Nat × AVal)} (hg : GOK W0 G) {idle : Nat → Option Nat} (hi : ∀ g m, idle g = some m → Ta P g m ∧ E1 P g) {tab : CallF} (ht : Do P W0 tab) {draw : CallF → Array Oper → St → Option St}
 (hdr : ∀ call, Do P W0 call → Z2 P W0 (draw call)) {keep : Nat → Bool} (fuel : Nat) : ∀ d, Do P W0 (Hg P G keep idle tab draw fuel d)
 | 0, _, _, _, _, _, h => by cases h
 | d + 1, f, args, H, v, H', h => by
   have ih := Qq hg hi ht hdr (keep := keep) fuel d
   simp only [Hg] at h
   split at h
   · rename_i r hr
     injection h with h; subst h
     exact ht _ _ _ _ _ hr
   · split at h
     · rename_i fn hfn
       split at h
       · rename_i c hc
         cases hla : (Nat.ble args.length 4094 && !(fn.name == "runtime.NumGoroutine")) with
         | false => rw [hla] at h; cases h
         | true =>
           rw [hla, cond_true] at h
           simp only [bAt, Bool.not_eq_true', bFn] at hla
           have hlen := Nat.le_of_ble_eq_true hla.1
           have post : ∀ {e : Am} {s : St}, A36 P fn (keep f) H (some (e, s)) = some (v, H') → (match e with | .exit _ => False | _ => True) ∧ ∃ vs, D3 P s fn.results.toList = some vs ∧ (J4 H.length (Hw vs) s.H = (v, H') ∨ (Hw vs, s.H) = (v, H')) := by
            intro e s h
            unfold A36 at h
            cases e with
            | exit id => cases h
            | normal =>
              simp only at h
              split at h
              · rename_i vs hvs
                injection h with h
                refine ⟨trivial, vs, hvs, ?_⟩
                cases hkp : keep f with
                | true => rw [hkp, cond_true] at h; exact .inr h
                | false => rw [hkp, cond_false] at h; exact .inl h
              · cases h
            | ret =>
              simp only at h
              split at h
              · rename_i vs hvs
                injection h with h
                refine ⟨trivial, vs, hvs, ?_⟩
                cases hkp : keep f with
                | true => rw [hkp, cond_true] at h; exact .inr h
                | false => rw [hkp, cond_false] at h; exact .inl h
              · cases h
           split at h
           · rename_i b hb
             have hsh : ∃ r0 r1 id ops rest, c = .seq r0 (.seq r1 (.seq (.region id ops false) rest)) ∧ Rb idle r0 r1 id rest ops.toList = some b := by
              unfold La at hb
              split at hb
              · exact ⟨_, _, _, _, _, rfl, hb⟩
              · cases hb
             obtain ⟨r0, r1, id, ops, rest, rfl, hb⟩ := hsh
             obtain ⟨k1, k2, k3, k4, k5, k6, k7, k8, k9⟩ := R2 hb
             obtain ⟨hidle, hgb⟩ := hi _ _ k9
             subst k1; subst k2; subst k3; subst k4
             have hops : ops = #[b.o0, b.o1] := by apply Array.ext'; simpa using k5
             unfold runDB at h
             split at h
             · rename_i s0 he0
               split at h
               · rename_i s1 he1
                 split at h
                 · rename_i s2 he2
                   cases hfa : A1a s2.env b.t b.g b.m with
                   | false => rw [hfa] at h; cases h
                   | true =>
                     rw [hfa, cond_true] at h
                     cases hex : Q4 P G (Hg P G keep idle tab draw fuel d) (draw (Hg P G keep idle tab draw fuel d)) fuel b.rest s2 with
                     | none => rw [hex] at h; cases h
                     | some es =>
                       obtain ⟨e, s⟩ := es
                       rw [hex] at h
                       refine A1.of_defer hg hfn hc hla.2 hidle hgb hops k6 k7 k8 hlen ((Jn hg ih (hdr _ ih) fuel he0).mono ?_)
                       rintro e1 s1' ⟨rfl, rfl⟩
                       refine ⟨rfl, (Jn hg ih (hdr _ ih) fuel he1).mono ?_⟩
                       rintro e1 s1' ⟨rfl, rfl⟩
                       refine ⟨rfl, ?_⟩
                       rw [hops]
                       refine Uz ih he2 ⟨?_, (Jn hg ih (hdr _ ih) fuel hex).mono ?_⟩
                       · unfold A1a at hfa
                         split at hfa
                         · rename_i g' c' hget
                           simp only [bAt] at hfa
                           have h1 := nBq hfa.1
                           have h2 := nBq hfa.2
                           subst h1
                           exact ⟨c', hget, h2⟩
                         · cases hfa
                       · rintro e1 s1' ⟨rfl, rfl⟩
                         exact post h
                 · cases h
               · cases h
             · cases h
           · split at h
             · rename_i b hb
               have hsh : ∃ r0 id ops rest, c = .seq r0 (.seq (.region id ops false) rest) ∧ Rb idle r0 .skip id rest ops.toList = some b := by
                unfold Re at hb
                split at hb
                · exact ⟨_, _, _, _, rfl, hb⟩
                · cases hb
               obtain ⟨r0, id, ops, rest, rfl, hb⟩ := hsh
               obtain ⟨k1, k2, k3, k4, k5, k6, k7, k8, k9⟩ := R2 hb
               obtain ⟨hidle, hgb⟩ := hi _ _ k9
               subst k1; subst k3; subst k4
               have hops : ops = #[b.o0, b.o1] := by apply Array.ext'; simpa using k5
               unfold A2n at h
               split at h
               · rename_i s1 he1
                 split at h
                 · rename_i s2 he2
                   split at h
                   · rename_i g' c' hget
                     cases hfa : (Nat.beq b.g g' && Nat.beq c'.length b.m) with
                     | false => rw [hfa] at h; cases h
                     | true =>
                       rw [hfa, cond_true] at h
                       cases hex : Q4 P G (Hg P G keep idle tab draw fuel d) (draw (Hg P G keep idle tab draw fuel d)) fuel b.rest s2 with
                       | none => rw [hex] at h; cases h
                       | some es =>
                         obtain ⟨e, s⟩ := es
                         rw [hex] at h
                         refine A1.of_defer1 hg hfn hc hla.2 hidle hgb hops k6 k7 k8 hlen ((Jn hg ih (hdr _ ih) fuel he1).mono ?_)
                         rintro e1 s1' ⟨rfl, rfl⟩
                         refine ⟨rfl, ?_⟩
                         rw [hops]
                         refine Uz ih he2 ⟨?_, (Jn hg ih (hdr _ ih) fuel hex).mono ?_⟩
                         · simp only [bAt] at hfa
                           have h1 := nBq hfa.1
                           have h2 := nBq hfa.2
                           subst h1
                           exact ⟨c', hget, h2⟩
                         · rintro e1 s1' ⟨rfl, rfl⟩
                           exact post h
                   · cases h
                 · cases h
               · cases h
             · cases hex : Q4 P G (Hg P G keep idle tab draw fuel d) (draw (Hg P G keep idle tab draw fuel d)) fuel c ⟨Ed 0 args .leaf, H, args.length + (fn.ntmps - args.length)⟩ with
               | none => rw [hex] at h; cases h
               | some es =>
                 obtain ⟨e, s⟩ := es
                 rw [hex] at h
                 refine A1.of_ex hfn hc hla.2 hlen ((Jn hg ih (hdr _ ih) fuel hex).mono ?_)
                 rintro e1 s1 ⟨rfl, rfl⟩
                 exact post h
       · cases h
     · cases h
section
variable {P : Program} {W0 : World} {G : List (Nat × AVal)} {ops : Array Oper}
theorem P0 {s : St} {sp : SP} (hok : H8 P ops sp = true) {l : List Tr} {M' : HMap} {ef : Env} {Hfin : Hz} (s2 : l.length = ops.size) (s3 : Bh l ef 0 = s.env) (h0 : lkH 0 M' = some s.H)
 (hget : ∀ (j : Nat) (o : Oper), ops[j]? = some o → ∃ t, l[j]? = some t ∧ Et o.dst s.n = true ∧ Bh l ef (j + 1) = Fa o.dst t.v t.env)
 (hquiet : ∀ (j : Nat) (o : Oper) (t : Tr), ops[j]? = some o → l[j]? = some t → Br P o ≤ 1 → ∀ σ ∈ sp.states, sp.mayB σ j = true → ∃ H2, lkH σ M' = some H2 ∧ D7 P W0 G ops o ⟨t.env, H2, s.n⟩ fun v' H' => v' = t.v ∧ H' = H2)
 (hloud : ∀ σ ∈ sp.states, ∀ j ∈ sp.steps σ, ∃ o t H2 H2', ops[j]? = some o ∧ l[j]? = some t ∧ lkH σ M' = some H2 ∧ (D7 P W0 G ops o ⟨t.env, H2, s.n⟩ fun v' H' => v' = t.v ∧ H' = H2') ∧ lkH (SP.nxt σ j) M' = some H2')
 (hfin : lkH sp.fin M' = some Hfin) :
 ∃ p : Plan, Iw P W0 G ops s p ∧ (⟨ef, Hfin, s.n⟩ : St) = ⟨p.env ops.size, p.Hs p.fin, s.n⟩ := by
 simp only [H8, bAt] at hok
 obtain ⟨⟨⟨⟨k1, k2⟩, k3⟩, k4⟩, k5⟩ := hok
 have hN : sp.n = ops.size := nBq k1
 have hat : ∀ (j : Nat) (o : Oper), ops[j]? = some o → Q7 P ops sp j o = true := by
  intro j o ho
  have := List.all_eq_true.1 k5 j (List.mem_range.2 (Array.getElem?_eq_some_iff.1 ho).1)
  rw [ho] at this
  exact this
 have hat1 : ∀ (j : Nat) (o : Oper), ops[j]? = some o → (∀ e ∈ o.after, Region.binds .any e = true → e.on < j) ∧ sp.mask.getD j 0 = M9 sp.mask o ∧ sp.kind.getD j 0 = Br P o ∧
  ∀ (i : Nat) (oi : Oper) (d : Nat), ops[i]? = some oi → oi.dst = some d → (i = j ∨ o.dst ≠ some d) ∧ (d ∈ reads P ops o → sp.msk j i = true ∨ sp.msk i j = true) := by
  intro j o ho
  have := hat j o ho
  simp only [Q7, bAt] at this
  obtain ⟨⟨⟨a1, a2⟩, a3⟩, a4⟩ := this
  refine ⟨fun e he hb => ?_, nBq a2, nBq a3, fun i oi d hi hd => ?_⟩
  · have := List.all_eq_true.1 a1 e (by simpa using he)
    rw [hb, cond_true, Nat.blt_eq] at this
    exact this
  · have := List.all_eq_true.1 a4 i (List.mem_range.2 (by rw [hN]; exact (Array.getElem?_eq_some_iff.1 hi).1))
    rw [hi] at this
    simp only [Option.bind_some, hd, bAt, Bool.or_eq_true] at this
    obtain ⟨b1, b2⟩ := this
    refine ⟨?_, fun hr => ?_⟩
    · rcases b1 with b1 | b1
      · exact .inl (nBq b1)
      · refine .inr fun hod => ?_
        unfold A04 at b1
        rw [hod] at b1
        simp at b1
    · have := List.all_eq_true.1 b2 d hr
      rw [show Nat.beq d d = true from Nat.beq_refl d, cond_true, Bool.or_eq_true] at this
      exact this
 have hclosed : ∀ σ ∈ sp.states, ∀ j ∈ sp.steps σ, SP.nxt σ j ∈ sp.states := fun σ hσ j hj => Fj (List.all_eq_true.1 (List.all_eq_true.1 k3 σ hσ) j hj)
 have hsteps : ∀ σ j, j < ops.size → sp.eff j = true → tb σ j = false → sp.mayB σ j = true → j ∈ sp.steps σ := by
  intro σ j h1 h2 h3 h4
  unfold SP.steps
  rw [List.mem_filter, List.mem_range, h2, h3, h4]
  exact ⟨by omega, rfl⟩
 refine ⟨{ v := fun j => (l[j]?.map Tr.v).getD .nilIf, eff := sp.eff, ok := fun σ => σ ∈ sp.states, dn := tb, nxt := SP.nxt, fin := sp.fin, Hs := fun σ => (lkH σ M').getD [], mask := sp.msk, env := Bh l ef }, ?_, ?_⟩
 · have hmay : ∀ σ j, Plan.may { v := fun j => (l[j]?.map Tr.v).getD .nilIf, eff := sp.eff, ok := fun σ => σ ∈ sp.states, dn := tb, nxt := SP.nxt, fin := sp.fin, Hs := fun σ => (lkH σ M').getD [], mask := sp.msk, env := Bh l ef } ops.size σ j → sp.mayB σ j = true := fun σ j hm => (Rw hN).2 hm
   refine ⟨fun j o ho => (hat1 j o ho).1, fun j o i ho hm => ?_, fun i j oi oj t hi hj h1 h2 => ?_, fun j oj t hj ht i oi hi hti => ((hat1 j oj hj).2.2.2 i oi t hi hti).2 ht, s3, fun i o ho => ?_, Fj k2, fun i _ _ => Nat.zero_testBit i, ?_, fun j o ho hef σ hσ hm => ?_, fun j o ho hef σ hσ hdn hm => ?_, fun σ hσ hall => ?_, fun j o ho => ?_⟩
   · have h2 := (hat1 j o ho).2.1
     have hm' : tb (sp.mask.getD j 0) i = true := hm
     rw [h2] at hm'
     exact Ov hm'
   · rcases ((hat1 j oj hj).2.2.2 i oi t hi h1).1 with h' | h'
     · exact h'
     · exact absurd h2 h'
   · obtain ⟨t, a1, a2, a6⟩ := hget i o ho
     simp only [a1, Option.map_some, Option.getD_some]
     rw [a6]
     simp [Bh, a1]
   · simp only
     rw [h0]
     rfl
   ·
    obtain ⟨t, a1, a2, a6⟩ := hget j o ho
    have hkk := (hat1 j o ho).2.2.1
    have hle : Br P o ≤ 1 := by
     have : ¬ (2 ≤ Br P o) := fun h2 => by
      have h3 : sp.eff j = true := by unfold SP.eff; rw [hkk]; rw [Nat.ble_eq]; exact h2
      have h4 : sp.eff j = false := hef
      rw [h4] at h3; cases h3
     omega
    have henv : Bh l ef j = t.env := by simp [Bh, a1]
    have hv : ((l[j]?.map Tr.v).getD .nilIf) = t.v := by simp [a1]
    show D7 P W0 G ops o ⟨Bh l ef j, (lkH σ M').getD [], s.n⟩ fun v' H' => v' = (l[j]?.map Tr.v).getD .nilIf ∧ H' = (lkH σ M').getD []
    rw [henv, hv]
    obtain ⟨H2, c1, c2⟩ := hquiet j o t ho a1 hle σ hσ (hmay σ j hm)
    rw [c1]
    exact c2
   ·
    have hjs := (Array.getElem?_eq_some_iff.1 ho).1
    have hst := hsteps σ j hjs hef hdn (hmay σ j hm)
    refine ⟨?_, hclosed σ hσ j hst, fun i _ _ => Vs σ j i⟩
    obtain ⟨o2, t2, H2, H2', b1, b2, c1, c2, c3⟩ := hloud σ hσ j hst
    rw [ho] at b1; injection b1 with b1; subst b1
    have henv : Bh l ef j = t2.env := by simp [Bh, b2]
    have hv : ((l[j]?.map Tr.v).getD .nilIf) = t2.v := by simp [b2]
    show D7 P W0 G ops o ⟨Bh l ef j, (lkH σ M').getD [], s.n⟩ fun v' H' => v' = (l[j]?.map Tr.v).getD .nilIf ∧ H' = (lkH (SP.nxt σ j) M').getD []
    rw [henv, hv, c1, c3]
    exact c2
   · have : sp.allIn σ = true := by
      unfold SP.allIn
      rw [lAt]
      intro i hi
      have hi' := List.mem_range.1 hi
      cases he : sp.eff i with
      | false => rfl
      | true => exact hall i (by omega) he
     have h4 := List.all_eq_true.1 k4 σ hσ
     rw [this, cond_true] at h4
     rw [nBq h4]
   · obtain ⟨t, a1, a2, a6⟩ := hget j o ho
     exact a2
 · simp only
   rw [hfin]
   have hlen : l[ops.size]? = none := by
    rw [List.getElem?_eq_none_iff, s2]
    exact Nat.le_refl _
   simp [Bh, hlen]
theorem Xm {e : Env} {H H2 : Hz} {n : Nat} {op : AOp} (hk : op.kind = 0) {v : AVal} {H' : Hz} (h : H7 P W0 H (aop G ⟨e, H, n⟩ op) fun v' H'' => v' = v ∧ H'' = H') : H7 P W0 H2 (aop G ⟨e, H2, n⟩ op) fun v' H'' => v' = v ∧ H'' = H2 := by
 have h0 := R5 (G := G) (e := e) (H := H) (H' := H2) (n := n) hk
 cases hr : aop G ⟨e, H, n⟩ op with
 | none => rw [hr] at h; exact h.elim
 | some r =>
   obtain ⟨v1, side, rfl⟩ := Hv (.inl hk) hr
   rw [hr] at h0 h
   cases hr2 : aop G ⟨e, H2, n⟩ op with
   | none => rw [hr2] at h0; cases h0
   | some r2 =>
     obtain ⟨v2, Py, rfl⟩ := Hv (.inl hk) hr2
     rw [hr2] at h0
     simp only [P3, iS, iP] at h0
     obtain ⟨h1, h2⟩ := h0
     subst h1; subst h2
     exact ⟨h.1, h.2.1, rfl⟩
theorem Jq {e : Env} {H H2 : Hz} {n : Nat} {o : Oper} (hk : Br P o = 0) {v : AVal} {H' : Hz} (h : D7 P W0 G ops o ⟨e, H, n⟩ fun v' H'' => v' = v ∧ H'' = H') : D7 P W0 G ops o ⟨e, H2, n⟩ fun v' H'' => v' = v ∧ H'' = H2 := by
 unfold D7 at h ⊢
 have hgd : Bq ops ⟨e, H2, n⟩ o.guard = Bq ops ⟨e, H, n⟩ o.guard := rfl
 rw [hgd]
 cases hg : Bq ops ⟨e, H, n⟩ o.guard with
 | none => rw [hg] at h; exact h.elim
 | some b =>
   rw [hg] at h
   cases b with
   | false => exact ⟨h.1, rfl⟩
   | true =>
     simp only at h ⊢
     unfold Br at hk
     cases hop : Ah P o.op with
     | none => rw [hop] at h; exact h.elim
     | some op =>
       rw [hop] at h hk
       exact Xm hk h
end
mutual
theorem V6 : ∀ (a : AVal), ren id a = a
 | .bool _ => rfl
 | .int _ _ => rfl
 | .str _ => rfl
 | .agg cs => by simp only [ren, Il cs]
 | .tup cs => by simp only [ren, Il cs]
 | .nilSl => rfl
 | .emp => rfl
 | .row k es => by simp only [ren, Il es]
 | .hsl _ _ _ _ _ => rfl
 | .nilPtr => rfl
 | .ptr _ _ => rfl
 | .optr _ _ _ => rfl
 | .eptr e _ => by simp only [ren, V6 e]
 | .fn f a c => by simp only [ren, Il a, Il c]
 | .nilFn => rfl
 | .nilMp => rfl
 | .iface t x => by simp only [ren, V6 x]
 | .nilIf => rfl
 | .mref _ => rfl
theorem Il : ∀ (l : List AVal), Eg id l = l
 | [] => rfl
 | a :: l => by simp only [Eg, V6 a, Il l]
end
theorem A05 (o : A2) : D6 id o = o := by
 cases o with
 | cells T cs op => simp only [D6, Il cs]
 | iter s p => rfl
 | mp es => rfl
 | dead => rfl
theorem X7 (l : Hz) : l.map (D6 id) = l := by
 induction l with
 | nil => rfl
 | cons o l ih => rw [List.map_cons, A05, ih]
theorem A1.frame {P : Program} {W0 : World} {f : FuncId} {args : List AVal} {H0 H0' : Hz} {v : AVal} (hbH : B2 H0.length H0 = true) (hba : A8 H0.length args = true) (hl : H0'.length = H0.length) (hc : A1 P W0 f args H0 v H0') (X : Hz) : A1 P W0 f args (H0 ++ X) v (H0' ++ X) := by
 have hs : Sel (List.range H0.length) H0.length H0 (H0 ++ X) id := by
  refine ⟨List.nodup_range, by simp, rfl, fun j hj => by simp [hj], fun i hi => ?_, fun j o ho => ?_⟩
  · have := List.mem_range.1 hi
    simp; omega
  · rw [A05]
    have hj := (List.getElem?_eq_some_iff.1 ho).1
    show (H0 ++ X)[j]? = some o
    rw [List.getElem?_append_left hj]; exact ho
 have h := A1.ren (List.range H0.length) id hs hbH hba hl hc
 rw [Il, V6, X7] at h
 have he : Bt (List.range H0.length) H0' (H0 ++ X) = H0' ++ X := by
  apply List.ext_getElem?
  intro i
  by_cases hi : i < H0.length
  · have hi' : i < H0'.length := by omega
    rw [List.getElem?_append_left hi', gGe hi']
    exact G6 _ _ _ i i _ List.nodup_range (by simp [hi]) (gGe hi') (by simp; omega)
  · rw [Ge _ _ _ i (by simpa using hi), List.getElem?_append_right (by omega), List.getElem?_append_right (by omega), hl]
 rw [he] at h
 exact h
end Go.Abs
