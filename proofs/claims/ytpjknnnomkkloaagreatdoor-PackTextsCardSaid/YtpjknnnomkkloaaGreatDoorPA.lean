/- A part of the proof that tabula/tabulalaw25.PackTexts returns true for every input, each argument reading as it did (its card: the last text). No conditions of its own. -/
import Derived.Calls
import Derived.Below
import Derived.Laws.Sem
import Derived.Laws.World
import Derived.Laws.AppendOwn
import Derived.KernelRfl
import Derived.Laws.Cells
import Derived.Laws.CopyRow
import Derived.Laws.Rows
import Derived.Laws.Tables
import Derived.Laws.Strings
import Derived.Laws.Strings2
import Derived.Laws.Append
import Derived.Laws.CopyOwn
import Derived.Laws.BytesString
import Derived.Laws.BytesArg
import Derived.Laws.RangeString
namespace Go.Abs
open Go
abbrev Bz : Type := List UInt8
abbrev iS := @Option.some.injEq
abbrev lCo := @List.length_cons
abbrev lAp := @List.length_append
abbrev lNi := @List.length_nil
abbrev nBq := @Nat.eq_of_beq_eq_true
abbrev dFn := @decide_eq_false_iff_not
abbrev bFn := @beq_eq_false_iff_ne
abbrev iP := @Prod.mk.injEq
abbrev bAt := @Bool.and_eq_true
abbrev dTe := @decide_eq_true_eq
abbrev rAo := @Result.andThen_ok
abbrev bNf := @bne_eq_false_iff_eq
abbrev gSi := @List.getElem?_eq_some_iff
abbrev oBi := @Option.bind_eq_some_iff
abbrev gGe := @List.getElem?_eq_getElem
abbrev oBb := @Option.bind_eq_bind
abbrev mGe := @List.mem_of_getElem?
abbrev lAt := @List.all_eq_true
abbrev nLl := @Nat.lt_of_lt_of_le
abbrev bFt := @Bool.false_eq_true
abbrev dF := @decide_eq_false
abbrev sRb := @Sem.run_bind
abbrev aSi := @Array.getElem?_eq_some_iff
end Go.Abs
namespace Go.Abs
open Go.RowKit
variable {F : Nat → Prop}
inductive AVal where
 | bool (b : Bool)
 | int (k : IntKind) (n : Int)
 | str (s : Bz)
 | agg (cs : List AVal)
 | tup (vs : List AVal)
 | nilSl
 | emp
 | row (k : Nat) (es : List AVal)
 | hsl (k id off len : Nat) (cap : Option Nat)
 | nilPtr
 | ptr (id off : Nat)
 | optr (id off len : Nat)
 | eptr (e : AVal) (off : Nat)
 | fn (f : FuncId) (first cap : List AVal)
 | nilFn
 | iface (t : TypeId) (v : AVal)
 | nilIf
 | mref (id : Nat)
 | nilMp
inductive A2 where
 | cells (T : TypeId) (cs : List AVal) (op : Bool)
 | iter (s : Bz) (pos : Nat)
 | mp (es : List (Bz × Int))
 | dead
abbrev Hz : Type := List A2
def AVal.cells : AVal → List AVal
 | .agg cs => cs
 | v => [v]
def Bv (w : World) (b : Nat) : Nat :=
 match w.heap[b]? with
 | some (.cells c _ _) => c.size
 | _ => 0
def flat (vs : List Value) : List Value := vs.flatMap fun u => u.cells.toList
def G4 (F : Nat → Prop) (bs : List Nat) (w : World) (a : Option Addr) (vs : List Value) (cap : Nat) : Prop :=
 match a with
 | none => vs = [] ∧ cap = 0
 | some a => a.spot = none ∧ vs.length ≤ cap ∧ ∀ j u, (flat vs)[j]? = some u → (a.block ∉ bs ∧ ¬ F a.block) ∧ w.cell? ⟨a.block, a.off + j, none⟩ = some u
def Bn (bs : List Nat) (H : Hz) (w : World) (k id off len : Nat) (cap : Option Nat) (v : Value) : Prop :=
 match H[id]? with
 | some (.cells _ cs op) => off + len * k ≤ cs.length ∧
  ((op = true → off = 0 ∧ len * k = cs.length) →
    ∃ b c, bs[id]? = some b ∧ v = .slice (some ⟨b, off, none⟩) len c ∧ len ≤ c ∧ (∀ c', cap = some c' → c = c') ∧ (op = true → c ≤ maxLen ∧ c * k = Bv w b))
 | some .dead => True
 | _ => False
def Dx (bs : List Nat) (H : Hz) (id off : Nat) (v : Value) : Prop :=
 match H[id]? with
 | some (.cells _ _ false) => ∃ b, bs[id]? = some b ∧ v = .pointer (some ⟨b, off, none⟩)
 | some (.iter _ _) => ∃ b, bs[id]? = some b ∧ v = .pointer (some ⟨b, off, none⟩)
 | some .dead => True
 | _ => False
def Dy (bs : List Nat) (H : Hz) (id off len : Nat) (v : Value) : Prop :=
 match H[id]? with
 | some (.cells _ cs true) => len ≤ cs.length ∧ (cs.length = len → ∃ b, bs[id]? = some b ∧ v = .pointer (some ⟨b, off, none⟩))
 | some .dead => True
 | _ => False
def Hh : Nat → List (Bz × Int) → List MapEntry
 | _, [] => []
 | n, (k, v) :: r => { key := .string ⟨k.toArray⟩, val := .int .i64 v, born := n } :: Hh (n + 1) r
def Fb (bs : List Nat) (H : Hz) (id : Nat) (v : Value) : Prop :=
 match H[id]? with
 | some (.mp _) => ∃ b, bs[id]? = some b ∧ v = .map (some b)
 | some .dead => True
 | _ => False
mutual
def Rep (F : Nat → Prop) (bs : List Nat) (H : Hz) (w : World) : AVal → Value → Prop
 | .bool b, v => v = .bool b
 | .int k n, v => v = .int k n
 | .str s, v => v = .string ⟨s.toArray⟩
 | .agg cs, v => ∃ vs : List Value, v = .agg vs.toArray ∧ A5 F bs H w cs vs
 | .tup cs, v => ∃ vs : List Value, v = .tuple vs.toArray ∧ A5 F bs H w cs vs
 | .nilSl, v => v = .slice none 0 0
 | .emp, v => ∃ a, v = .slice (some a) 0 0
 | .row k es, v => ∃ a cap vs, v = .slice a es.length cap ∧ A5 F bs H w es vs ∧ (∀ u ∈ vs, u.cells.size = k) ∧ G4 F bs w a vs cap
 | .hsl k id off len cap, v => (∃ a c, len ≤ c ∧ v = .slice (some a) len c) ∧ Bn bs H w k id off len cap v
 | .nilPtr, v => v = .pointer none
 | .ptr id off, v => (∃ a, v = .pointer (some a)) ∧ Dx bs H id off v
 | .optr id off len, v => (∃ a, v = .pointer (some a)) ∧ Dy bs H id off len v
 | .eptr e off, v => ∃ b base u, v = .pointer (some ⟨b, base + off, none⟩) ∧ Rep F bs H w e u ∧ (b ∉ bs ∧ ¬ F b) ∧ b < w.heap.size ∧ ∀ j x, u.cells.toList[j]? = some x → w.cell? ⟨b, base + j, none⟩ = some x
 | .fn f first cap, v => ∃ fs cs : List Value, v = .func (.func f) fs.toArray cs.toArray ∧ A5 F bs H w first fs ∧ A5 F bs H w cap cs
 | .nilFn, v => v = .nilFunc
 | .iface t x, v => ∃ u, v = .iface t u ∧ Rep F bs H w x u
 | .nilIf, v => v = .nilIface
 | .nilMp, v => v = .map none
 | .mref id, v => (∃ b, v = .map (some b)) ∧ Fb bs H id v
def A5 (F : Nat → Prop) (bs : List Nat) (H : Hz) (w : World) : List AVal → List Value → Prop
 | [], vs => vs = []
 | a :: az, vs => ∃ u us, vs = u :: us ∧ Rep F bs H w a u ∧ A5 F bs H w az us
end
def B0 (bs bs' : List Nat) (w w' : World) (i : Nat) : A2 → A2 → Prop
 | .cells _ cs false, o' => o' = .dead ∨ ∃ T' cs', o' = .cells T' cs' false ∧ cs'.length = cs.length ∧ bs'[i]? = bs[i]?
 | .cells _ cs true, o' => o' = .dead ∨ ∃ T' cs', o' = .cells T' cs' true ∧ (cs.length < cs'.length ∨ cs'.length = cs.length ∧ bs'[i]? = bs[i]? ∧ ∀ b, bs[i]? = some b → Bv w' b = Bv w b)
 | .iter _ _, o' => o' = .dead ∨ ∃ s p, o' = .iter s p ∧ bs'[i]? = bs[i]?
 | .mp _, o' => o' = .dead ∨ ∃ es, o' = .mp es ∧ bs'[i]? = bs[i]?
 | .dead, o' => o' = .dead
structure Ext (bs : List Nat) (H : Hz) (w : World) (bs' : List Nat) (H' : Hz) (w' : World) : Prop where
 size : w.heap.size ≤ w'.heap.size
 block : ∀ k, k < w.heap.size → k ∉ bs → w'.heap[k]? = w.heap[k]?
 new : ∀ k, k ∈ bs' → k ∈ bs ∨ w.heap.size ≤ k
 obj : ∀ i o, H[i]? = some o → ∃ o', H'[i]? = some o' ∧ B0 bs bs' w w' i o o'
theorem G4.extF {F F' : Nat → Prop} {bs bs' : List Nat} {H H' : Hz} {w w' : World} (h : Ext bs H w bs' H' w') (hF : ∀ k, k < w.heap.size → k ∉ bs → ¬ F k → ¬ F' k) {a : Option Addr} {vs : List Value} {cap : Nat}
 (hr : G4 F bs w a vs cap) : G4 F' bs' w' a vs cap := by
 cases a with
 | none => exact hr
 | some a =>
   obtain ⟨h1, h2, h3⟩ := hr
   refine ⟨h1, h2, fun j u hj => ?_⟩
   obtain ⟨⟨hn, hnF⟩, hc⟩ := h3 j u hj
   have hlt : a.block < w.heap.size := World.block_lt_of_cell? w ⟨a.block, a.off + j, none⟩ hc
   refine ⟨⟨fun hm => ?_, hF _ hlt hn hnF⟩, ?_⟩
   · rcases h.new _ hm with h' | h'
     · exact hn h'
     · omega
   · rw [← hc]
     exact World.cell?_of_block (a := ⟨a.block, a.off + j, none⟩) (h.block _ hlt hn)
theorem Bn.ext {bs bs' : List Nat} {H H' : Hz} {w w' : World} (h : Ext bs H w bs' H' w') {k id off len : Nat} {cap : Option Nat} {v : Value}
 (hr : Bn bs H w k id off len cap v) : Bn bs' H' w' k id off len cap v := by
 unfold Bn at hr ⊢
 cases ho : H[id]? with
 | none => simp [ho] at hr
 | some o =>
   obtain ⟨o', ho', hm⟩ := h.obj id o ho
   rw [ho] at hr
   rw [ho']
   cases o with
   | dead => simp only [B0] at hm; subst hm; trivial
   | iter s p => simp at hr
   | mp es => simp at hr
   | cells T cs op =>
     cases op with
     | false =>
       rcases hm with rfl | ⟨T', cs', rfl, hl, hb⟩
       · trivial
       · obtain ⟨h1, h2⟩ := hr
         refine ⟨by omega, fun _ => ?_⟩
         obtain ⟨b, c, hb1, hv, hlc, hcap, _⟩ := h2 (by simp)
         exact ⟨b, c, by rw [hb]; exact hb1, hv, hlc, hcap, by simp⟩
     | true =>
       rcases hm with rfl | ⟨T', cs', rfl, hl⟩
       · trivial
       · obtain ⟨h1, h2⟩ := hr
         rcases hl with hl | ⟨hl, hb, hsz⟩
         · refine ⟨by omega, fun hc => ?_⟩
           have := hc rfl
           omega
         · refine ⟨by omega, fun hc => ?_⟩
           obtain ⟨b, c, hb1, hv, hlc, hcap, hop⟩ := h2 (by intro hh; have := hc hh; omega)
           refine ⟨b, c, by rw [hb]; exact hb1, hv, hlc, hcap, fun ht => ?_⟩
           rw [hsz b hb1]; exact hop ht
theorem Dx.ext {bs bs' : List Nat} {H H' : Hz} {w w' : World} (h : Ext bs H w bs' H' w') {id off : Nat} {v : Value}
 (hr : Dx bs H id off v) : Dx bs' H' id off v := by
 unfold Dx at hr ⊢
 cases ho : H[id]? with
 | none => simp [ho] at hr
 | some o =>
   obtain ⟨o', ho', hm⟩ := h.obj id o ho
   rw [ho] at hr
   rw [ho']
   cases o with
   | dead => simp only [B0] at hm; subst hm; trivial
   | mp es => simp at hr
   | iter s p =>
     rcases hm with rfl | ⟨s', p', rfl, hb⟩
     · trivial
     · obtain ⟨b, hb1, hv⟩ := hr; exact ⟨b, by rw [hb]; exact hb1, hv⟩
   | cells T cs op =>
     cases op with
     | false =>
       rcases hm with rfl | ⟨T', cs', rfl, hl, hb⟩
       · trivial
       · obtain ⟨b, hb1, hv⟩ := hr; exact ⟨b, by rw [hb]; exact hb1, hv⟩
     | true => simp at hr
theorem Dy.ext {bs bs' : List Nat} {H H' : Hz} {w w' : World} (h : Ext bs H w bs' H' w') {id off len : Nat} {v : Value}
 (hr : Dy bs H id off len v) : Dy bs' H' id off len v := by
 unfold Dy at hr ⊢
 cases ho : H[id]? with
 | none => simp [ho] at hr
 | some o =>
   obtain ⟨o', ho', hm⟩ := h.obj id o ho
   rw [ho] at hr
   rw [ho']
   cases o with
   | dead => simp only [B0] at hm; subst hm; trivial
   | iter s p => simp at hr
   | mp es => simp at hr
   | cells T cs op =>
     cases op with
     | false => simp at hr
     | true =>
       rcases hm with rfl | ⟨T', cs', rfl, hl⟩
       · trivial
       · obtain ⟨h1, h2⟩ := hr
         rcases hl with hl | ⟨hl, hb, _⟩
         · exact ⟨by omega, fun hc => by omega⟩
         · refine ⟨by omega, fun hc => ?_⟩
           obtain ⟨b, hb1, hv⟩ := h2 (by omega)
           exact ⟨b, by rw [hb]; exact hb1, hv⟩
theorem Fb.ext {bs bs' : List Nat} {H H' : Hz} {w w' : World} (h : Ext bs H w bs' H' w') {id : Nat} {v : Value}
 (hr : Fb bs H id v) : Fb bs' H' id v := by
 unfold Fb at hr ⊢
 cases ho : H[id]? with
 | none => simp [ho] at hr
 | some o =>
   obtain ⟨o', ho', hm⟩ := h.obj id o ho
   rw [ho] at hr
   rw [ho']
   cases o with
   | dead => simp only [B0] at hm; subst hm; trivial
   | iter s p => simp at hr
   | cells T cs op => simp at hr
   | mp es =>
     rcases hm with rfl | ⟨es', rfl, hb⟩
     · trivial
     · obtain ⟨b, hb1, hv⟩ := hr; exact ⟨b, by rw [hb]; exact hb1, hv⟩
mutual
theorem Rep.extF {F F' : Nat → Prop} {bs bs' : List Nat} {H H' : Hz} {w w' : World} (h : Ext bs H w bs' H' w') (hF : ∀ k, k < w.heap.size → k ∉ bs → ¬ F k → ¬ F' k) : ∀ (a : AVal) (v : Value), Rep F bs H w a v → Rep F' bs' H' w' a v
 | .bool _, _, hr | .int _ _, _, hr | .str _, _, hr | .nilSl, _, hr | .emp, _, hr | .nilPtr, _, hr | .nilFn, _, hr | .nilIf, _, hr | .nilMp, _, hr => by simpa only [Rep] using hr
 | .agg cs, _, hr => by
   simp only [Rep] at hr ⊢
   obtain ⟨vs, hv, hl⟩ := hr
   exact ⟨vs, hv, A5.extF h hF cs vs hl⟩
 | .tup cs, _, hr => by
   simp only [Rep] at hr ⊢
   obtain ⟨vs, hv, hl⟩ := hr
   exact ⟨vs, hv, A5.extF h hF cs vs hl⟩
 | .row k es, _, hr => by
   simp only [Rep] at hr ⊢
   obtain ⟨a, cap, vs, hv, hl, hk, hrow⟩ := hr
   exact ⟨a, cap, vs, hv, A5.extF h hF es vs hl, hk, hrow.extF h hF⟩
 | .hsl k id off len cap, _, hr => by simp only [Rep] at hr ⊢; exact ⟨hr.1, hr.2.ext h⟩
 | .ptr id off, _, hr => by simp only [Rep] at hr ⊢; exact ⟨hr.1, hr.2.ext h⟩
 | .mref id, _, hr => by simp only [Rep] at hr ⊢; exact ⟨hr.1, hr.2.ext h⟩
 | .optr id off len, _, hr => by simp only [Rep] at hr ⊢; exact ⟨hr.1, hr.2.ext h⟩
 | .eptr e off, _, hr => by
   simp only [Rep] at hr ⊢
   obtain ⟨b, base, u, hv, he, ⟨hb, hnF⟩, hlt, hc⟩ := hr
   refine ⟨b, base, u, hv, Rep.extF h hF e u he, ⟨fun hm => ?_, hF _ hlt hb hnF⟩, nLl hlt h.size, fun j x hx => ?_⟩
   · rcases h.new _ hm with h' | h'
     · exact hb h'
     · omega
   · rw [← hc j x hx]
     exact World.cell?_of_block (a := ⟨b, base + j, none⟩) (h.block _ hlt hb)
 | .fn f first cap, _, hr => by
   simp only [Rep] at hr ⊢
   obtain ⟨fs, cs, hv, h1, h2⟩ := hr
   exact ⟨fs, cs, hv, A5.extF h hF first fs h1, A5.extF h hF cap cs h2⟩
 | .iface t x, _, hr => by
   simp only [Rep] at hr ⊢
   obtain ⟨u, hv, hx⟩ := hr
   exact ⟨u, hv, Rep.extF h hF x u hx⟩
theorem A5.extF {F F' : Nat → Prop} {bs bs' : List Nat} {H H' : Hz} {w w' : World} (h : Ext bs H w bs' H' w') (hF : ∀ k, k < w.heap.size → k ∉ bs → ¬ F k → ¬ F' k) : ∀ (az : List AVal) (vs : List Value), A5 F bs H w az vs → A5 F' bs' H' w' az vs
 | [], _, hr => by simpa only [A5] using hr
 | a :: az, _, hr => by
   simp only [A5] at hr ⊢
   obtain ⟨u, us, hv, h1, h2⟩ := hr
   exact ⟨u, us, hv, Rep.extF h hF a u h1, A5.extF h hF az us h2⟩
end
theorem Rep.ext {bs bs' : List Nat} {H H' : Hz} {w w' : World} (h : Ext bs H w bs' H' w') (a : AVal) (v : Value) (hr : Rep F bs H w a v) : Rep F bs' H' w' a v := Rep.extF h (fun _ _ _ h => h) a v hr
theorem A5.ext {bs bs' : List Nat} {H H' : Hz} {w w' : World} (h : Ext bs H w bs' H' w') (az : List AVal) (vs : List Value) (hr : A5 F bs H w az vs) : A5 F bs' H' w' az vs := A5.extF h (fun _ _ _ h => h) az vs hr
theorem B0.refl (bs : List Nat) (w : World) (i : Nat) (o : A2) : B0 bs bs w w i o o := by
 cases o with
 | dead => simp [B0]
 | iter s p => exact .inr ⟨s, p, rfl, rfl⟩
 | mp es => exact .inr ⟨es, rfl, rfl⟩
 | cells T cs op =>
   cases op with
   | false => exact .inr ⟨T, cs, rfl, rfl, rfl⟩
   | true => exact .inr ⟨T, cs, rfl, .inr ⟨rfl, rfl, fun _ _ => rfl⟩⟩
theorem Ext.refl (bs : List Nat) (H : Hz) (w : World) : Ext bs H w bs H w :=
 ⟨Nat.le_refl _, fun _ _ _ => rfl, fun _ h => .inl h, fun i o h => ⟨o, h, B0.refl bs w i o⟩⟩
theorem B0.trans {bs bs' bs'' : List Nat} {w w' w'' : World} {i : Nat} {o o' o'' : A2} (h : B0 bs bs' w w' i o o') (k : B0 bs' bs'' w' w'' i o' o'') : B0 bs bs'' w w'' i o o'' := by
 cases o with
 | dead => simp only [B0] at h; subst h; simp only [B0] at k; simp [B0, k]
 | iter s p =>
   rcases h with rfl | ⟨s', p', rfl, hb⟩
   · simp only [B0] at k; exact .inl k
   · rcases k with rfl | ⟨s'', p'', rfl, hb'⟩
     · exact .inl rfl
     · exact .inr ⟨s'', p'', rfl, by rw [hb', hb]⟩
 | mp es =>
   rcases h with rfl | ⟨es', rfl, hb⟩
   · simp only [B0] at k; exact .inl k
   · rcases k with rfl | ⟨es'', rfl, hb'⟩
     · exact .inl rfl
     · exact .inr ⟨es'', rfl, by rw [hb', hb]⟩
 | cells T cs op =>
   cases op with
   | false =>
     rcases h with rfl | ⟨T', cs', rfl, hl, hb⟩
     · simp only [B0] at k; exact .inl k
     · rcases k with rfl | ⟨T'', cs'', rfl, hl', hb'⟩
       · exact .inl rfl
       · exact .inr ⟨T'', cs'', rfl, by omega, by rw [hb', hb]⟩
   | true =>
     rcases h with rfl | ⟨T', cs', rfl, hl⟩
     · simp only [B0] at k; exact .inl k
     · rcases k with rfl | ⟨T'', cs'', rfl, hl'⟩
       · exact .inl rfl
       · refine .inr ⟨T'', cs'', rfl, ?_⟩
         rcases hl with hl | ⟨hl, hb, hz⟩
         · rcases hl' with hl' | ⟨hl', _, _⟩ <;> exact .inl (by omega)
         · rcases hl' with hl' | ⟨hl', hb', hz'⟩
           · exact .inl (by omega)
           · exact .inr ⟨by omega, by rw [hb', hb], fun b hbb => by rw [hz' b (by rw [hb]; exact hbb), hz b hbb]⟩
theorem Ext.trans {bs bs' bs'' : List Nat} {H H' H'' : Hz} {w w' w'' : World} (h : Ext bs H w bs' H' w') (k : Ext bs' H' w' bs'' H'' w'') : Ext bs H w bs'' H'' w'' := by
 refine ⟨Nat.le_trans h.size k.size, fun i hi hn => ?_, fun i hi => ?_, fun i o ho => ?_⟩
 · rw [k.block i (nLl hi h.size) (fun hm => ?_), h.block i hi hn]
   rcases h.new i hm with h' | h'
   · exact hn h'
   · omega
 · rcases k.new i hi with h' | h'
   · exact h.new i h'
   · exact .inr (Nat.le_trans h.size h')
 · obtain ⟨o', ho', hm⟩ := h.obj i o ho
   obtain ⟨o'', ho'', hm'⟩ := k.obj i o' ho'
   exact ⟨o'', ho'', hm.trans hm'⟩
def Vt (T : TypeId) : TypeId := cond (Nat.blt T 1000000) T (T - 1000000)
theorem Hj {T : TypeId} (h : Nat.blt T 1000000 = true) : Vt T = T := by unfold Vt; rw [h]; rfl
def Gm (F : Nat → Prop) (bs : List Nat) (H : Hz) (w : World) (b : Nat) : A2 → Prop
 | .cells T cs false => ∃ (vs rest : List Value) (fr : Nat × Nat), w.heap[b]? = some (.cells (vs ++ rest).toArray T fr) ∧ A5 F bs H w cs vs ∧ ∀ j, j < vs.length → ¬ (fr.1 ≤ j ∧ j < fr.2)
 | .cells T cs true => ∃ (vs rest : List Value) (fr : Nat × Nat), w.heap[b]? = some (.cells (vs ++ rest).toArray (Vt T) fr) ∧ A5 F bs H w cs vs ∧ (Nat.blt T 1000000 = true → fr = (0, 0))
 | .iter s pos => w.heap[b]? = some (.stringIter ⟨s.toArray⟩ pos)
 | .mp es => w.heap[b]? = some (.map (Hh 0 es).toArray es.length)
 | .dead => True
structure A7 (W0 : World) (F : Nat → Prop) (bs : List Nat) (H : Hz) (w : World) : Prop where
 len : bs.length = H.length
 base : Below W0.heap.size W0 w
 low : ∀ b, b ∈ bs → W0.heap.size ≤ b ∧ b < w.heap.size
 nodup : bs.Nodup
 forb : ∀ b, F b → W0.heap.size ≤ b ∧ b < w.heap.size ∧ b ∉ bs
 obj : ∀ (i : Nat) (o : A2) (b : Nat), H[i]? = some o → bs[i]? = some b → Gm F bs H w b o
theorem A7.ext0 {W0 : World} {bs : List Nat} {H : Hz} {w : World} (h : A7 W0 F bs H w) : Ext [] [] W0 bs H w :=
 ⟨h.base.size, fun k hk _ => h.base.block k hk, fun k hk => .inr (h.low k hk).1, fun i o ho => by simp at ho⟩
theorem Gm.ext {bs bs' : List Nat} {H H' : Hz} {w w' : World} (h : Ext bs H w bs' H' w') {b : Nat} {o : A2} (hb : w'.heap[b]? = w.heap[b]?) (ho : Gm F bs H w b o) : Gm F bs' H' w' b o := by
 cases o with
 | dead => trivial
 | iter s p => simp only [Gm] at ho ⊢; rw [hb]; exact ho
 | mp es => simp only [Gm] at ho ⊢; rw [hb]; exact ho
 | cells T cs op =>
   cases op with
   | false => obtain ⟨vs, rest, fr, h1, h2, h3⟩ := ho; exact ⟨vs, rest, fr, by rw [hb]; exact h1, A5.ext h cs vs h2, h3⟩
   | true => obtain ⟨vs, rest, fr, h1, h2, h3⟩ := ho; exact ⟨vs, rest, fr, by rw [hb]; exact h1, A5.ext h cs vs h2, h3⟩
theorem Ext.alloc {bs : List Nat} {H : Hz} {w : World} (hl : bs.length = H.length) (hlow : ∀ b, b ∈ bs → b < w.heap.size) (o : Obj) (ho : A2) :
 Ext bs H w (bs ++ [w.heap.size]) (H ++ [ho]) (w.alloc o) := by
 refine ⟨by simp, fun k hk _ => ?_, fun k hk => ?_, fun i x hx => ⟨x, ?_, ?_⟩⟩
 · exact Below.heap_alloc w o k hk
 · rcases List.mem_append.1 hk with h | h
   · exact .inl h
   · simp at h; exact .inr (by omega)
 · have hi : i < H.length := (List.getElem?_eq_some_iff.1 hx).1
   rw [List.getElem?_append_left hi]; exact hx
 · have hi : i < H.length := (List.getElem?_eq_some_iff.1 hx).1
   have hb : (bs ++ [w.heap.size])[i]? = bs[i]? := List.getElem?_append_left (by omega)
   have hz : ∀ b, bs[i]? = some b → Bv (w.alloc o) b = Bv w b := fun b hb => by
    have : b < w.heap.size := hlow b (mGe hb)
    unfold Bv; rw [Below.heap_alloc w o b this]
   cases x with
   | dead => simp [B0]
   | iter s p => exact .inr ⟨s, p, rfl, hb⟩
   | mp es => exact .inr ⟨es, rfl, hb⟩
   | cells T cs op =>
     cases op with
     | false => exact .inr ⟨T, cs, rfl, rfl, hb⟩
     | true => exact .inr ⟨T, cs, rfl, .inr ⟨rfl, hb, hz⟩⟩
theorem A7.alloc {W0 : World} {bs : List Nat} {H : Hz} {w : World} (h : A7 W0 F bs H w) (o : Obj) (ho : A2)
 (hobj : Gm F (bs ++ [w.heap.size]) (H ++ [ho]) (w.alloc o) w.heap.size ho) : A7 W0 F (bs ++ [w.heap.size]) (H ++ [ho]) (w.alloc o) := by
 have he := Ext.alloc h.len (fun b hb => (h.low b hb).2) o ho
 refine ⟨by simp [h.len], h.base.alloc h.base.size o, fun b hb => ?_, ?_, fun b hb => ?_, fun i x b hx hb => ?_⟩
 · rcases List.mem_append.1 hb with h' | h'
   · have := h.low b h'; simp; omega
   · simp at h'; subst h'; simp; exact h.base.size
 · rw [List.nodup_append]
   refine ⟨h.nodup, by simp, fun a ha b hb => ?_⟩
   simp at hb; have := (h.low a ha).2; omega
 · obtain ⟨h1, h2, h3⟩ := h.forb b hb
   refine ⟨h1, by simp; omega, fun hm => ?_⟩
   rcases List.mem_append.1 hm with h' | h'
   · exact h3 h'
   · simp at h'; omega
 · by_cases hi : i < H.length
   · rw [List.getElem?_append_left hi] at hx
     rw [List.getElem?_append_left (by rw [h.len]; exact hi)] at hb
     exact (h.obj i x b hx hb).ext he (Below.heap_alloc w o b (h.low b (mGe hb)).2)
   · have hi' : i = H.length := by
      have := (List.getElem?_eq_some_iff.1 hx).1; simp at this; omega
     subst hi'
     simp at hx
     rw [← h.len] at hb
     simp at hb
     subst hx; subst hb; exact hobj
theorem Cm {l : List Nat} (h : l.Nodup) {i j c : Nat} (hi : l[i]? = some c) (hj : l[j]? = some c) : i = j := by
 obtain ⟨h1, e1⟩ := List.getElem?_eq_some_iff.1 hi
 obtain ⟨h2, e2⟩ := List.getElem?_eq_some_iff.1 hj
 have hp := List.pairwise_iff_getElem.1 h
 rcases Nat.lt_trichotomy i j with hlt | he | hgt
 · exact absurd (e1.trans e2.symm) (hp i j h1 h2 hlt)
 · exact he
 · exact absurd (e2.trans e1.symm) (hp j i h2 h1 hgt)
theorem Ext.upd {bs : List Nat} {H : Hz} {w w' : World} (hnd : bs.Nodup) {i b : Nat} {o o' : A2} (ho : H[i]? = some o) (hb : bs[i]? = some b)
 (hsz : w'.heap.size = w.heap.size) (hother : ∀ k, k ≠ b → w'.heap[k]? = w.heap[k]?) (hoe : B0 bs bs w w' i o o') : Ext bs H w bs (H.set i o') w' := by
 refine ⟨by omega, fun k _ hk => hother k (fun e => hk (e ▸ mGe hb)), fun k hk => .inl hk, fun j x hx => ?_⟩
 by_cases hij : j = i
 · subst hij
   rw [ho] at hx
   injection hx with hx
   subst hx
   exact ⟨o', by rw [List.getElem?_set_self (List.getElem?_eq_some_iff.1 ho).1], hoe⟩
 · refine ⟨x, by rw [List.getElem?_set_ne (Ne.symm hij)]; exact hx, ?_⟩
   have hz : ∀ c, bs[j]? = some c → Bv w' c = Bv w c := fun c hc => by
    have hcb : c ≠ b := fun e => by
     subst e
     exact hij (Cm hnd hc hb)
    unfold Bv; rw [hother c hcb]
   cases x with
   | dead => simp [B0]
   | iter s p => exact .inr ⟨s, p, rfl, rfl⟩
   | mp es => exact .inr ⟨es, rfl, rfl⟩
   | cells T cs op =>
     cases op with
     | false => exact .inr ⟨T, cs, rfl, rfl, rfl⟩
     | true => exact .inr ⟨T, cs, rfl, .inr ⟨rfl, rfl, hz⟩⟩
theorem A7.upd {W0 : World} {bs : List Nat} {H : Hz} {w w' : World} (h : A7 W0 F bs H w) {i b : Nat} {o o' : A2} (ho : H[i]? = some o) (hb : bs[i]? = some b)
 (hw : Below W0.heap.size w w')
 (hsz : w'.heap.size = w.heap.size) (hother : ∀ k, k ≠ b → w'.heap[k]? = w.heap[k]?) (hoe : B0 bs bs w w' i o o')
 (hok : Gm F bs (H.set i o') w' b o') : A7 W0 F bs (H.set i o') w' := by
 have he := Ext.upd h.nodup ho hb hsz hother hoe
 refine ⟨by simp [h.len], h.base.trans hw, fun c hc => by have := h.low c hc; omega, h.nodup, fun c hc => by have := h.forb c hc; rw [hsz]; exact this, fun j x c hx hc => ?_⟩
 by_cases hij : j = i
 · subst hij
   rw [List.getElem?_set_self (List.getElem?_eq_some_iff.1 ho).1] at hx
   injection hx with hx
   subst hx
   rw [hb] at hc; injection hc with hc; subst hc
   exact hok
 · rw [List.getElem?_set_ne (Ne.symm hij)] at hx
   have hcb : c ≠ b := fun e => by
    subst e
    exact hij (Cm h.nodup hc hb)
   exact (h.obj j x c hx hc).ext he (hother c hcb)
theorem A5.length {bs : List Nat} {H : Hz} {w : World} : ∀ {az : List AVal} {vs : List Value}, A5 F bs H w az vs → vs.length = az.length
 | [], _, h => by simp only [A5] at h; subst h; rfl
 | _ :: az, _, h => by
   simp only [A5] at h
   obtain ⟨u, us, rfl, _, h2⟩ := h
   simp [A5.length h2]
theorem A5.append {bs : List Nat} {H : Hz} {w : World} : ∀ {az : List AVal} {vs : List Value} {az' : List AVal} {vs' : List Value}, A5 F bs H w az vs → A5 F bs H w az' vs' → A5 F bs H w (az ++ az') (vs ++ vs')
 | [], _, _, _, h, h' => by simp only [A5] at h; subst h; simpa using h'
 | _ :: az, _, _, _, h, h' => by
   simp only [A5] at h
   obtain ⟨u, us, rfl, h1, h2⟩ := h
   simp only [List.cons_append, A5]
   exact ⟨u, _, rfl, h1, A5.append h2 h'⟩
theorem A5.drop {bs : List Nat} {H : Hz} {w : World} : ∀ {az : List AVal} {vs : List Value} (n : Nat), A5 F bs H w az vs → A5 F bs H w (az.drop n) (vs.drop n)
 | _, _, 0, h => by simpa using h
 | [], _, n + 1, h => by simp only [A5] at h; subst h; simp [A5]
 | _ :: az, _, n + 1, h => by
   simp only [A5] at h
   obtain ⟨u, us, rfl, h1, h2⟩ := h
   simpa using A5.drop n h2
theorem A5.take {bs : List Nat} {H : Hz} {w : World} : ∀ {az : List AVal} {vs : List Value} (n : Nat), A5 F bs H w az vs → A5 F bs H w (az.take n) (vs.take n)
 | _, _, 0, h => by simp [A5]
 | [], _, n + 1, h => by simp only [A5] at h; subst h; simp [A5]
 | _ :: az, _, n + 1, h => by
   simp only [A5] at h
   obtain ⟨u, us, rfl, h1, h2⟩ := h
   simp only [List.take_succ_cons, A5]
   exact ⟨u, _, rfl, h1, A5.take n h2⟩
theorem A5.get {bs : List Nat} {H : Hz} {w : World} : ∀ {az : List AVal} {vs : List Value} {i : Nat} {x : AVal}, A5 F bs H w az vs → az[i]? = some x → ∃ u, vs[i]? = some u ∧ Rep F bs H w x u
 | [], _, _, _, _, hx => by simp at hx
 | a :: az, _, i, x, h, hx => by
   simp only [A5] at h
   obtain ⟨u, us, rfl, h1, h2⟩ := h
   cases i with
   | zero => simp at hx; subst hx; exact ⟨u, rfl, h1⟩
   | succ i => exact A5.get (i := i) h2 (by simpa using hx)
def AVal.one : AVal → Bool
 | .agg _ | .tup _ => false
 | _ => true
theorem Rep.one {bs : List Nat} {H : Hz} {w : World} {a : AVal} {v : Value} (h : Rep F bs H w a v) (h1 : a.one = true) : v.oneCell' = true := by
 cases a <;> simp only [Rep, AVal.one, bFt] at h h1 <;> first
  | (exact h1.elim)
  | (subst h; rfl)
  | (obtain ⟨⟨a, c, _, rfl⟩, _⟩ := h; rfl)
  | (obtain ⟨⟨a, rfl⟩, _⟩ := h; rfl)
  | (obtain ⟨_, _, _, rfl, _⟩ := h; rfl)
  | (obtain ⟨_, _, rfl, _⟩ := h; rfl)
  | (obtain ⟨_, rfl, _⟩ := h; rfl)
theorem A5.one {bs : List Nat} {H : Hz} {w : World} : ∀ {az : List AVal} {vs : List Value}, A5 F bs H w az vs → az.all AVal.one = true → ∀ v ∈ vs, v.oneCell' = true
 | [], _, h, _ => by simp only [A5] at h; subst h; simp
 | a :: az, _, h, h1 => by
   simp only [A5] at h
   obtain ⟨u, us, rfl, h2, h3⟩ := h
   simp only [List.all_cons, bAt] at h1
   intro v hv
   rcases List.mem_cons.1 hv with rfl | hv
   · exact h2.one h1.1
   · exact A5.one h3 h1.2 v hv
theorem Rep.cells {bs : List Nat} {H : Hz} {w : World} {a : AVal} {v : Value} (h : Rep F bs H w a v) : A5 F bs H w a.cells v.cells.toList := by
 have key : ∀ (b : AVal), b.one = true → Rep F bs H w b v → A5 F bs H w [b] v.cells.toList := fun b h1 hb => by
  have := hb.one h1
  have hc : v.cells.toList = [v] := by cases v <;> simp_all [Value.cells, Value.oneCell']
  rw [hc]
  simp only [A5]
  exact ⟨v, [], rfl, hb, rfl⟩
 cases a with
 | agg cs =>
   simp only [Rep] at h
   obtain ⟨vs, rfl, hl⟩ := h
   simpa [AVal.cells, Value.cells] using hl
 | tup cs =>
   have h' := h
   simp only [Rep] at h'
   obtain ⟨vs, rfl, hl⟩ := h'
   simp only [AVal.cells, Value.cells, A5]
   exact ⟨_, [], rfl, h, rfl⟩
 | _ => exact key _ rfl h
inductive AOpd where
 | tmp (t : Nat)
 | val (a : AVal)
 | glob (g : Nat)
def lk (t : Nat) : List (Nat × AVal) → Option AVal
 | [] => none
 | (u, v) :: r => cond (Nat.beq t u) (some v) (lk t r)
inductive Env where
 | leaf
 | node (v : Option AVal) (l r : Env)
 | al (l : List (Nat × AVal))
def Env.get : Env → Nat → Option AVal
 | .leaf, _ => none
 | .al l, t => lk t l
 | .node v l r, t => cond (Nat.beq t 0) v (cond (Nat.beq (Nat.mod t 2) 1) (l.get (Nat.div t 2)) (r.get (Nat.pred (Nat.div t 2))))
def Env.put : Nat → Nat → AVal → Env → Env
 | 0, _, _, e => e
 | _ + 1, t, v, .al l => .al ((t, v) :: l)
 | k + 1, t, v, .leaf => cond (Nat.beq t 0) (.node (some v) .leaf .leaf) (cond (Nat.beq (Nat.mod t 2) 1) (.node none (Env.put k (Nat.div t 2) v .leaf) .leaf) (.node none .leaf (Env.put k (Nat.pred (Nat.div t 2)) v .leaf)))
 | k + 1, t, v, .node w l r => cond (Nat.beq t 0) (.node (some v) l r) (cond (Nat.beq (Nat.mod t 2) 1) (.node w (Env.put k (Nat.div t 2) v l) r) (.node w l (Env.put k (Nat.pred (Nat.div t 2)) v r)))
theorem Env.get_node (x : Option AVal) (l r : Env) (u : Nat) : (Env.node x l r).get u = cond (Nat.beq u 0) x (cond (Nat.beq (Nat.mod u 2) 1) (l.get (Nat.div u 2)) (r.get (Nat.pred (Nat.div u 2)))) := rfl
theorem Env.get_put : ∀ (k t : Nat) (v : AVal) (e : Env) (u : Nat), t + 2 ≤ 2 ^ k → (Env.put k t v e).get u = if u = t then some v else e.get u
 | 0, t, _, _, _, h => by simp at h
 | k + 1, t, v, e, u, hk => by
   have step : ∀ (x : Option AVal) (l r : Env), (cond (Nat.beq t 0) (Env.node (some v) l r) (cond (Nat.beq (Nat.mod t 2) 1) (Env.node x (Env.put k (Nat.div t 2) v l) r) (Env.node x l (Env.put k (Nat.pred (Nat.div t 2)) v r)))).get u =
    if u = t then some v else (Env.node x l r).get u := by
    intro x l r
    have hmod : Nat.mod u 2 = u % 2 := rfl
    have hdiv : Nat.div u 2 = u / 2 := rfl
    have hmodt : Nat.mod t 2 = t % 2 := rfl
    have hdivt : Nat.div t 2 = t / 2 := rfl
    have hp : 2 ^ (k + 1) = 2 * 2 ^ k := by rw [Nat.pow_succ, Nat.mul_comm]
    cases ht : Nat.beq t 0 with
    | true =>
      have ht0 := nBq ht
      rw [cond_true, Env.get_node, Env.get_node]
      cases hu : Nat.beq u 0 with
      | true => rw [cond_true, if_pos (by rw [nBq hu, ht0])]
      | false => rw [cond_false, cond_false, if_neg (by have := Nat.ne_of_beq_eq_false hu; omega)]
    | false =>
      have ht0 := Nat.ne_of_beq_eq_false ht
      rw [cond_false]
      cases htm : Nat.beq (Nat.mod t 2) 1 with
      | true =>
        have htm' := nBq htm
        rw [cond_true, Env.get_node, Env.get_node]
        cases hu : Nat.beq u 0 with
        | true => rw [cond_true, cond_true, if_neg (by have := nBq hu; omega)]
        | false =>
          rw [cond_false, cond_false]
          cases hum : Nat.beq (Nat.mod u 2) 1 with
          | false => rw [cond_false, cond_false, if_neg (by have := Nat.ne_of_beq_eq_false hum; intro e; subst e; omega)]
          | true =>
            have hum' := nBq hum
            rw [cond_true, cond_true, Env.get_put k _ v l _ (by omega)]
            by_cases he : u = t
            · subst he; simp
            · rw [if_neg he, if_neg (by omega)]
      | false =>
        have htm' := Nat.ne_of_beq_eq_false htm
        rw [cond_false, Env.get_node, Env.get_node]
        cases hu : Nat.beq u 0 with
        | true => rw [cond_true, cond_true, if_neg (by have := nBq hu; omega)]
        | false =>
          have hu0 := Nat.ne_of_beq_eq_false hu
          rw [cond_false, cond_false]
          cases hum : Nat.beq (Nat.mod u 2) 1 with
          | true => rw [cond_true, cond_true, if_neg (by have := nBq hum; intro e; subst e; omega)]
          | false =>
            have hum' := Nat.ne_of_beq_eq_false hum
            rw [cond_false, cond_false, Env.get_put k _ v r _ (by simp only [Nat.pred_eq_sub_one]; omega)]
            by_cases he : u = t
            · subst he; simp
            · rw [if_neg he, if_neg (by simp only [Nat.pred_eq_sub_one]; omega)]
   cases e with
   | leaf =>
     have h1 := step none .leaf .leaf
     have hn : (Env.node none .leaf .leaf).get u = Env.leaf.get u := by
      rw [Env.get_node]
      cases Nat.beq u 0 <;> cases Nat.beq (Nat.mod u 2) 1 <;> rfl
     rw [hn] at h1
     exact h1
   | node x l r => exact step x l r
   | al l =>
     show lk u ((t, v) :: l) = if u = t then some v else lk u l
     simp only [lk]
     cases hu : Nat.beq u t with
     | true => rw [if_pos (nBq hu)]; rfl
     | false => rw [if_neg (Nat.ne_of_beq_eq_false hu)]; rfl
structure St where
 env : Env
 H : Hz
 n : Nat
def ev (G : List (Nat × AVal)) (s : St) : AOpd → Option AVal
 | .tmp t => s.env.get t
 | .val a => some a
 | .glob g => (lk g G).map fun e => .eptr e 0
def evs (G : List (Nat × AVal)) (s : St) : List AOpd → Option (List AVal)
 | [] => some []
 | x :: xs =>
   match ev G s x with
   | some v => match evs G s xs with
     | some vs => some (v :: vs)
     | none => none
   | none => none
def D4 : Nat → Value → Option AVal
 | 0, _ => none
 | n + 1, v =>
   match v with
   | .bool b => some (.bool b)
   | .int k m => some (.int k m)
   | .string s => some (.str s.data.toList)
   | .pointer none => some .nilPtr
   | .slice none 0 0 => some .nilSl
   | .nilFunc => some .nilFn
   | .map none => some .nilMp
   | .nilIface => some .nilIf
   | .agg cs => (cs.toList.mapM (D4 n)).map .agg
   | _ => none
def Aa : Operand → Option AOpd
 | .tmp t => some (.tmp t)
 | .const v => (D4 3 v).map .val
 | .global g => some (.glob g)
 | .func f => some (.val (.fn f [] []))
def I6 : List Operand → Option (List AOpd)
 | [] => some []
 | x :: xs =>
   match Aa x with
   | some y => match I6 xs with
     | some ys => some (y :: ys)
     | none => none
   | none => none
def GOK (W0 : World) (G : List (Nat × AVal)) : Prop := ∀ g e, lk g G = some e → Rep (fun _ => False) [] [] W0 (.eptr e 0) (.pointer (some ⟨g, 0, none⟩))
structure RS (W0 : World) (F : Nat → Prop) (bs : List Nat) (s : St) (a : Act) (w : World) : Prop where
 heap : A7 W0 F bs s.H w
 size : a.tmps.size = s.n
 env : ∀ t v, s.env.get t = some v → Rep F bs s.H w v (a.tmps.getD t undef)
theorem Ie {bs : List Nat} {H : Hz} {w : World} {f : Value → Option AVal} : ∀ {l : List Value} {az : List AVal}, (∀ v ∈ l, ∀ a, f v = some a → Rep F bs H w a v) → l.mapM f = some az → A5 F bs H w az l
 | [], az, _, h => by simp at h; subst h; simp [A5]
 | v :: l, az, hf, h => by
   simp only [List.mapM_cons, oBb, Option.pure_def, oBi] at h
   obtain ⟨a, ha, bs', hb, he⟩ := h
   injection he with he
   subst he
   simp only [A5]
   exact ⟨v, l, rfl, hf v (by simp) a ha, Ie (fun u hu => hf u (by simp [hu])) hb⟩
theorem Rep.const {bs : List Nat} {H : Hz} {w : World} : ∀ (n : Nat) (v : Value) (a : AVal), D4 n v = some a → Rep F bs H w a v
 | 0, _, _, h => by simp [D4] at h
 | n + 1, v, a, h => by
   cases v with
   | bool b => simp [D4] at h; subst h; simp [Rep]
   | int k m => simp [D4] at h; subst h; simp [Rep]
   | string s => simp [D4] at h; subst h; simp [Rep]
   | pointer p => cases p <;> simp [D4] at h; subst h; simp [Rep]
   | map p => cases p <;> simp [D4] at h; subst h; simp [Rep]
   | slice p l c =>
     cases p with
     | some _ => simp [D4] at h
     | none =>
       cases l with
       | succ _ => simp [D4] at h
       | zero =>
         cases c with
         | succ _ => simp [D4] at h
         | zero => simp [D4] at h; subst h; simp [Rep]
   | nilFunc => simp [D4] at h; subst h; simp [Rep]
   | nilIface => simp [D4] at h; subst h; simp [Rep]
   | agg cs =>
     simp only [D4, Option.map_eq_some_iff] at h
     obtain ⟨az, h1, rfl⟩ := h
     simp only [Rep]
     exact ⟨cs.toList, by simp, Ie (fun u _ b hb => Rep.const n u b hb) h1⟩
   | _ => simp [D4] at h
theorem Az {W0 : World} {G : List (Nat × AVal)} {bs : List Nat} {s : St} {a : Act} {w : World} (hg : GOK W0 G) (hs : RS W0 F bs s a w) {x : Operand} {y : AOpd} (hc : Aa x = some y) {v : AVal} (hv : ev G s y = some v) :
 Rep F bs s.H w v (a.eval x) := by
 cases x with
 | tmp t => simp [Aa] at hc; subst hc; exact hs.env t v hv
 | const c =>
   simp only [Aa, Option.map_eq_some_iff] at hc
   obtain ⟨b, hb, rfl⟩ := hc
   simp [ev] at hv; subst hv
   exact Rep.const _ _ _ hb
 | global g =>
   simp [Aa] at hc; subst hc
   simp only [ev, Option.map_eq_some_iff] at hv
   obtain ⟨e, he, rfl⟩ := hv
   exact Rep.extF hs.heap.ext0 (fun k hk _ _ hf => by have := (hs.heap.forb k hf).1; omega) _ _ (hg g e he)
 | func f =>
   simp [Aa] at hc; subst hc
   simp [ev] at hv; subst hv
   simp only [Rep, Act.eval]
   exact ⟨[], [], rfl, by simp [A5], by simp [A5]⟩
theorem Vq {W0 : World} {G : List (Nat × AVal)} {bs : List Nat} {s : St} {a : Act} {w : World} (hg : GOK W0 G) (hs : RS W0 F bs s a w) : ∀ {xs : List Operand} {ys : List AOpd} (_ : I6 xs = some ys) {vs : List AVal} (_ : evs G s ys = some vs),
 A5 F bs s.H w vs (xs.map a.eval)
 | [], ys, hc, vs, hv => by simp [I6] at hc; subst hc; simp [evs] at hv; subst hv; simp [A5]
 | x :: xs, ys, hc, vs, hv => by
   simp only [I6] at hc
   split at hc
   · rename_i y hy
     split at hc
     · rename_i ys' hys
       injection hc with hc; subst hc
       simp only [evs] at hv
       split at hv
       · rename_i v hv1
         split at hv
         · rename_i vs' hvs
           injection hv with hv; subst hv
           simp only [List.map_cons, A5]
           exact ⟨_, _, rfl, Az hg hs hy hv1, Vq hg hs hys hvs⟩
         · cases hv
       · cases hv
     · cases hc
   · cases hc
def Af : List (Int × Int) → Prop
 | [] => True
 | p :: r => p.1 ≤ p.2 ∧ Af r
inductive ARes where
 | val (v : AVal) (H : Hz) (side : List (Int × Int))
 | skip (H : Hz)
 | call (f : FuncId) (args : List AVal)
def E1 (P : Program) (f : FuncId) : Prop := ∃ fn c, P.funcs[f]? = some fn ∧ fn.body = some c ∧ fn.name ≠ "runtime.NumGoroutine"
def Cf (P : Program) (W0 : World) (F : Nat → Prop) (bs : List Nat) (H : Hz) (w : World) (r : Result Next) : ARes → Prop
 | .val v H' side => Af side → ∃ cv w' bs', r = .ok (.value cv) w' ∧ Rep F bs' H' w' v cv ∧ A7 W0 F bs' H' w' ∧ Ext bs H w bs' H' w'
 | .skip H' => ∃ w' bs', r = .ok .skip w' ∧ A7 W0 F bs' H' w' ∧ Ext bs H w bs' H' w'
 | .call f args => E1 P f → ∃ cargs : List Value, r = .ok (.enter f cargs.toArray) w ∧ A5 F bs H w args cargs
theorem Cf.same {P : Program} {W0 : World} {bs : List Nat} {H : Hz} {w : World} {r : Result Next} {v : AVal} {cv : Value} (hh : A7 W0 F bs H w) (hr : r = .ok (.value cv) w) (hv : Rep F bs H w v cv) : Cf P W0 F bs H w r (.val v H []) :=
 fun _ => ⟨cv, w, bs, hr, hv, hh, Ext.refl _ _ _⟩
def L2 (P : Program) (t : TypeId) : Option (Nat × Bool) :=
 match P.info? t with
 | none => none
 | some i => match P.underlying t with
   | some (.struct _) => some (i.size, true)
   | some (.array _ _) => some (i.size, true)
   | some _ => some (i.size, false)
   | none => none
section
variable {P : Program} (w : World)
theorem A3 {t : TypeId} {d : TypeDesc} (h : P.underlying t = some d) : (underlying t).run P w = .ok d w := by simp [underlying, h]
theorem B9 {t : TypeId} {i : TypeInfo} (h : P.info? t = some i) : (typeInfo t).run P w = .ok i w := by simp [typeInfo, h]
theorem O3 {t : TypeId} {n : Nat} {agg : Bool} (h : L2 P t = some (n, agg)) : (isAgg t).run P w = .ok agg w ∧ (sizeOf t).run P w = .ok n w := by
 unfold L2 at h
 cases hi : P.info? t with
 | none => simp [hi] at h
 | some i =>
   rw [hi] at h
   simp only at h
   have hs : (sizeOf t).run P w = .ok i.size w := by simp [sizeOf, B9 w hi]
   cases hd : P.underlying t with
   | none => simp [hd] at h
   | some d =>
     have ha : (isAgg t).run P w = .ok (match d with | .struct _ | .array _ _ => true | _ => false) w := by
      simp only [isAgg, sRb, A3 w hd, rAo]
      cases d <;> rfl
     rw [hd] at h
     cases d <;> simp at h <;> obtain ⟨rfl, rfl⟩ := h <;> exact ⟨ha, hs⟩
end
def Bg (n : Nat) (agg : Bool) (cs : List AVal) (off : Nat) : Option AVal :=
 match agg with
 | true => cond (Nat.beq ((cs.drop off).take n).length n) (some (.agg ((cs.drop off).take n))) none
 | false => cond (Nat.beq n 1) (match cs.drop off with
   | c :: _ => cond c.one (some c) none
   | [] => none) none
def Hy (n : Nat) (agg : Bool) (H : Hz) : AVal → Option AVal
 | .eptr e off => Bg n agg e.cells off
 | .ptr id off => match H[id]? with
   | some (.cells _ cs false) => Bg n agg cs off
   | _ => none
 | .optr id off len => match H[id]? with
   | some (.cells _ cs true) => cond (Nat.beq cs.length len) (Bg n agg cs off) none
   | _ => none
 | _ => none
theorem I3 {P : Program} (w : World) {bs : List Nat} {H : Hz} {t : TypeId} {n : Nat} {agg : Bool} (ht : L2 P t = some (n, agg)) {cs : List AVal} {us : List Value} {b base off : Nat}
 (hl : A5 F bs H w cs us) (hc : ∀ j x, us[j]? = some x → w.cell? ⟨b, base + j, none⟩ = some x) {v : AVal} (hv : Bg n agg cs off = some v) :
 ∃ cv, (Instr.loadAt t (.pointer (some ⟨b, base + off, none⟩))).run P w = .ok cv w ∧ Rep F bs H w v cv := by
 obtain ⟨ha, hs⟩ := O3 w ht
 cases agg with
 | true =>
   simp only [Bg] at hv
   cases hlen : Nat.beq ((cs.drop off).take n).length n with
   | false => rw [hlen] at hv; cases hv
   | true =>
     simp only [hlen, cond_true, iS] at hv
     subst hv
     have hrl : A5 F bs H w ((cs.drop off).take n) ((us.drop off).take n) := (hl.drop off).take n
     have hun : ((us.drop off).take n).length = n := by rw [hrl.length]; exact nBq hlen
     have hld := run_loadCells_list (P := P) w ⟨b, base + off, none⟩ ((us.drop off).take n) (fun j x hx => by
      rw [List.getElem?_take] at hx
      split at hx
      · rw [List.getElem?_drop] at hx
        have := hc _ _ hx
        rw [show (⟨b, base + off, none⟩ : Addr).add j = ⟨b, base + (off + j), none⟩ by unfold Addr.add; split <;> simp_all [Nat.add_assoc]]
        exact this
      · cases hx)
     rw [hun] at hld
     refine ⟨.agg ((us.drop off).take n).toArray, ?_, ?_⟩
     · simp [Instr.loadAt, Instr.sureAddr, loadVar, ha, hs, hld]
     · simp only [Rep]; exact ⟨_, rfl, hrl⟩
 | false =>
   simp only [Bg] at hv
   cases hn : Nat.beq n 1 with
   | false => simp [hn] at hv
   | true =>
     simp only [hn, cond_true] at hv
     cases hd : cs.drop off with
     | nil => simp [hd] at hv
     | cons c rest =>
       simp only [hd] at hv
       cases h1 : c.one with
       | false => simp [h1] at hv
       | true =>
         simp only [h1, cond_true, iS] at hv
         subst hv
         have hget : cs[off]? = some c := by
          have := congrArg (fun l => l[0]?) hd
          simpa using this
         obtain ⟨u, hu, hr⟩ := hl.get hget
         refine ⟨u, ?_, hr⟩
         simp [Instr.loadAt, Instr.sureAddr, loadVar, ha, hc off u hu]
theorem Xd {P : Program} {W0 w : World} {bs : List Nat} {H : Hz} (hh : A7 W0 F bs H w) {t : TypeId} {n : Nat} {agg : Bool} (ht : L2 P t = some (n, agg)) {p v : AVal} {cp : Value} (hp : Rep F bs H w p cp) (hv : Hy n agg H p = some v) :
 ∃ cv, (Instr.loadAt t cp).run P w = .ok cv w ∧ Rep F bs H w v cv := by
 cases p <;> simp only [Hy] at hv <;> try (cases hv; done)
 case eptr e off =>
  simp only [Rep] at hp
  obtain ⟨b, base, u, rfl, he, _, _, hc⟩ := hp
  exact I3 w ht he.cells hc hv
 case ptr id off =>
  simp only [Rep] at hp
  obtain ⟨_, hp⟩ := hp
  unfold Dx at hp
  split at hv
  · rename_i T cs ho
    rw [ho] at hp
    obtain ⟨b, hb, rfl⟩ := hp
    obtain ⟨vs, rest, fr, hcell, hl, _⟩ := hh.obj id _ b ho hb
    have := I3 (P := P) (b := b) (base := 0) w ht hl (fun j x hx => by
     rw [Nat.zero_add, cell_of_row w b j _ T fr hcell, List.getElem?_toArray, List.getElem?_append_left (List.getElem?_eq_some_iff.1 hx).1]; exact hx) hv
    simpa using this
  · cases hv
 case optr id off len =>
  simp only [Rep] at hp
  obtain ⟨_, hp⟩ := hp
  unfold Dy at hp
  split at hv
  · rename_i T cs ho
    rw [ho] at hp
    cases hlen : Nat.beq cs.length len with
    | false => rw [hlen] at hv; cases hv
    | true =>
      rw [hlen, cond_true] at hv
      obtain ⟨b, hb, rfl⟩ := hp.2 (nBq hlen)
      obtain ⟨vs, rest, fr, hcell, hl, _⟩ := hh.obj id _ b ho hb
      have := I3 (P := P) (b := b) (base := 0) w ht hl (fun j x hx => by
       rw [Nat.zero_add, cell_of_row w b j _ _ fr hcell, List.getElem?_toArray, List.getElem?_append_left (List.getElem?_eq_some_iff.1 hx).1]; exact hx) hv
      simpa using this
  · cases hv
theorem Ec {P : Program} (g o : Nat) (t : TypeId) (fr : Nat × Nat) : ∀ (vs : List Value) (i : Nat) (cur : Array Value) (w : World), w.heap[g]? = some (.cells cur t fr) → ∀ n, (∀ j, j < n → ¬ (fr.1 ≤ j ∧ j < fr.2)) → o + i + vs.length ≤ n → n ≤ cur.size → (∀ v ∈ vs, v.oneCell' = true) →
 (storeCells ⟨g, o, none⟩ vs i).run P w = .ok () (w.setRow g (cur.toList.take (o + i) ++ vs ++ cur.toList.drop (o + i + vs.length)).toArray)
 | [], i, cur, w, hg, _, _, _, _, _ => by
   simp only [storeCells, List.append_nil, lNi, Nat.add_zero, List.take_append_drop, Array.toArray_toList]
   rw [setRow_self w g cur t fr hg]
   rfl
 | v :: rest, i, cur, w, hg, n, hf, hl', hn, h1 => by
   have hl : o + i + (v :: rest).length ≤ cur.size := Nat.le_trans hl' hn
   have hi : o + i < cur.size := by simp at hl; omega
   have hadd : (⟨g, o, none⟩ : Addr).add i = ⟨g, o + i, none⟩ := by unfold Addr.add; split <;> simp_all
   have hcell : w.cell? ⟨g, o + i, none⟩ = some cur[o + i] := by simp [World.cell?, hg, hi]
   have hfro : w.frozen? ⟨g, o + i, none⟩ = false := by
    obtain ⟨lo, hi'⟩ := fr
    have := hf (o + i) (by simp at hl'; omega)
    simp only [World.frozen?, hg, Bool.and_eq_false_iff, dFn]
    simp only at this
    omega
   have hst : (store ((⟨g, o, none⟩ : Addr).add i) v).run P w = .ok () (w.setRow g (cur.setIfInBounds (o + i) v)) := by
    rw [hadd, run_store P w _ v _ (h1 v (by simp)), hcell]
    simp [hfro, setCell_eq_setRow w g (o + i) cur t fr v hg]
   have ih := Ec (P := P) g o t fr rest (i + 1) (cur.setIfInBounds (o + i) v) (w.setRow g (cur.setIfInBounds (o + i) v)) (setRow_heap w g cur _ t _ hg) n hf (by simp at hl' ⊢; omega) (by simpa using hn) (fun x hx => h1 x (by simp [hx]))
   simp only [storeCells, sRb, hst, rAo, ih, setRow_setRow]
   congr 3
   have e := list_seg_step cur.toList (o + i) v rest (by simp at hl ⊢; omega)
   simpa [Array.toList_setIfInBounds, Nat.add_assoc] using e
def spl (cs : List AVal) (off : Nat) (xs : List AVal) : List AVal := cs.take off ++ (xs ++ cs.drop (off + xs.length))
def Lu (n : Nat) (H : Hz) (p x : AVal) : Option Hz :=
 match p with
 | .ptr id off => match H[id]? with
   | some (.cells T cs false) =>
     cond (Nat.beq x.cells.length n && Nat.ble (off + n) cs.length && x.cells.all AVal.one) (some (H.set id (.cells T (spl cs off x.cells) false))) none
   | _ => none
 | .optr id off len => match H[id]? with
   | some (.cells T cs true) =>
     cond (Nat.blt T 1000000 && Nat.beq cs.length len && (Nat.beq x.cells.length n && Nat.ble (off + n) cs.length && x.cells.all AVal.one)) (some (H.set id (.cells T (spl cs off x.cells) true))) none
   | _ => none
 | _ => none
theorem Ek {B : Nat} (w : World) {b : Nat} (cs : Array Value) (h : B ≤ b) : Below B w (w.setRow b cs) :=
 ⟨rfl, rfl, rfl, by simp [World.setRow], fun k hk => setRow_other w b k cs (by omega)⟩
theorem A15 {P : Program} {W0 w : World} {bs : List Nat} {H H' : Hz} (hh : A7 W0 F bs H w) {t : TypeId} {n : Nat} {agg : Bool} (ht : L2 P t = some (n, agg)) {p x : AVal} {cp cx : Value} (hp : Rep F bs H w p cp) (hx : Rep F bs H w x cx) (hv : Lu n H p x = some H') :
 ∃ w', (Instr.storeAt t cp cx).run P w = .ok () w' ∧ A7 W0 F bs H' w' ∧ Ext bs H w bs H' w' := by
 obtain ⟨_, hs⟩ := O3 w ht
 cases p <;> simp only [Lu] at hv <;> try (cases hv; done)
 case ptr id off =>
  simp only [Rep] at hp
  obtain ⟨_, hp⟩ := hp
  unfold Dx at hp
  split at hv
  · rename_i T cs ho
    rw [ho] at hp
    obtain ⟨b, hb, rfl⟩ := hp
    obtain ⟨vs, rest, fr, hcell, hl, hfr⟩ := hh.obj id _ b ho hb
    cases hcnd : (Nat.beq x.cells.length n && Nat.ble (off + n) cs.length && x.cells.all AVal.one) with
    | false => simp [hcnd] at hv
    | true =>
      simp only [hcnd, cond_true, iS] at hv
      subst hv
      simp only [bAt] at hcnd
      obtain ⟨⟨h1, h2⟩, h3⟩ := hcnd
      have h1 := nBq h1
      have h2 := Nat.le_of_ble_eq_true h2
      have hxc := hx.cells
      have hxl : cx.cells.toList.length = n := by rw [hxc.length]; exact h1
      have hvl := hl.length
      have hst := Ec (P := P) b off T fr cx.cells.toList 0 (vs ++ rest).toArray w hcell vs.length hfr (by simp at hxl ⊢; omega) (by simp) (hxc.one h3)
      simp only [Nat.add_zero] at hst
      have hsp : (vs ++ rest).toArray.toList.take off ++ cx.cells.toList ++ (vs ++ rest).toArray.toList.drop (off + cx.cells.toList.length) = (vs.take off ++ cx.cells.toList ++ vs.drop (off + cx.cells.toList.length)) ++ rest := by
       rw [List.take_append_of_le_length (by omega), List.drop_append_of_le_length (by omega)]
       simp
      rw [hsp] at hst
      have hrow : A5 F bs H w (spl cs off x.cells) (vs.take off ++ cx.cells.toList ++ vs.drop (off + cx.cells.toList.length)) := by
       rw [spl, List.append_assoc, hxl, ← h1]
       exact (hl.take off).append (hxc.append (hl.drop _))
      have hlen : (spl cs off x.cells).length = cs.length := by simp [spl]; omega
      have hoe : B0 bs bs w (w.setRow b ((vs.take off ++ cx.cells.toList ++ vs.drop (off + cx.cells.toList.length)) ++ rest).toArray) id (.cells T cs false) (.cells T (spl cs off x.cells) false) := .inr ⟨T, _, rfl, hlen, rfl⟩
      have hlow := hh.low b (mGe hb)
      have hext := Ext.upd (w' := w.setRow b ((vs.take off ++ cx.cells.toList ++ vs.drop (off + cx.cells.toList.length)) ++ rest).toArray) hh.nodup ho hb (by simp) (fun k hk => setRow_other w b k _ hk) hoe
      refine ⟨_, ?_, A7.upd hh ho hb (Ek w _ hlow.1) (by simp) (fun k hk => setRow_other w b k _ hk) hoe ?_, hext⟩
      · have hsz : cx.cells.size = n := by simpa using hxl
        simp only [Instr.storeAt, Instr.sureAddr, storeVar, sRb, Sem.run_pure, rAo, hs, hsz, ne_eq, not_true, if_false]
        exact hst
      · refine ⟨_, rest, fr, setRow_heap w b _ _ T fr hcell, A5.ext hext _ _ hrow, fun j hj => hfr j ?_⟩
        have := hrow.length; omega
  · cases hv
 case optr id off len =>
  simp only [Rep] at hp
  obtain ⟨_, hp⟩ := hp
  unfold Dy at hp
  split at hv
  · rename_i T cs ho
    rw [ho] at hp
    cases hcnd : (Nat.blt T 1000000 && Nat.beq cs.length len && (Nat.beq x.cells.length n && Nat.ble (off + n) cs.length && x.cells.all AVal.one)) with
    | false => simp [hcnd] at hv
    | true =>
      simp only [hcnd, cond_true, iS] at hv
      subst hv
      simp only [bAt] at hcnd
      obtain ⟨⟨hT, h0⟩, ⟨h1, h2⟩, h3⟩ := hcnd
      obtain ⟨b, hb, rfl⟩ := hp.2 (nBq h0)
      obtain ⟨vs, rest, fr, hcell, hl, hfr⟩ := hh.obj id _ b ho hb
      obtain rfl := hfr hT
      rw [Hj hT] at hcell
      have h1 := nBq h1
      have h2 := Nat.le_of_ble_eq_true h2
      have hxc := hx.cells
      have hxl : cx.cells.toList.length = n := by rw [hxc.length]; exact h1
      have hvl := hl.length
      have hst := Ec (P := P) b off T (0, 0) cx.cells.toList 0 (vs ++ rest).toArray w hcell vs.length (fun j _ h => by omega) (by simp at hxl ⊢; omega) (by simp) (hxc.one h3)
      simp only [Nat.add_zero] at hst
      have hsp : (vs ++ rest).toArray.toList.take off ++ cx.cells.toList ++ (vs ++ rest).toArray.toList.drop (off + cx.cells.toList.length) = (vs.take off ++ cx.cells.toList ++ vs.drop (off + cx.cells.toList.length)) ++ rest := by
       rw [List.take_append_of_le_length (by omega), List.drop_append_of_le_length (by omega)]
       simp
      rw [hsp] at hst
      have hrow : A5 F bs H w (spl cs off x.cells) (vs.take off ++ cx.cells.toList ++ vs.drop (off + cx.cells.toList.length)) := by
       rw [spl, List.append_assoc, hxl, ← h1]
       exact (hl.take off).append (hxc.append (hl.drop _))
      have hlen : (spl cs off x.cells).length = cs.length := by simp [spl]; omega
      have hnew := setRow_heap w b _ ((vs.take off ++ cx.cells.toList ++ vs.drop (off + cx.cells.toList.length)) ++ rest).toArray T (0, 0) hcell
      have hbz : Bv (w.setRow b ((vs.take off ++ cx.cells.toList ++ vs.drop (off + cx.cells.toList.length)) ++ rest).toArray) b = Bv w b := by
       unfold Bv
       rw [hnew, hcell]
       have := hrow.length
       simp only [List.size_toArray, lAp] at this ⊢
       omega
      have hoe : B0 bs bs w (w.setRow b ((vs.take off ++ cx.cells.toList ++ vs.drop (off + cx.cells.toList.length)) ++ rest).toArray) id (.cells T cs true) (.cells T (spl cs off x.cells) true) :=
       .inr ⟨T, _, rfl, .inr ⟨hlen, rfl, fun b' hb' => by rw [hb] at hb'; injection hb' with hb'; subst hb'; exact hbz⟩⟩
      have hlow := hh.low b (mGe hb)
      have hext := Ext.upd (w' := w.setRow b ((vs.take off ++ cx.cells.toList ++ vs.drop (off + cx.cells.toList.length)) ++ rest).toArray) hh.nodup ho hb (by simp) (fun k hk => setRow_other w b k _ hk) hoe
      refine ⟨_, ?_, A7.upd hh ho hb (Ek w _ hlow.1) (by simp) (fun k hk => setRow_other w b k _ hk) hoe ?_, hext⟩
      · have hsz : cx.cells.size = n := by simpa using hxl
        simp only [Instr.storeAt, Instr.sureAddr, storeVar, sRb, Sem.run_pure, rAo, hs, hsz, ne_eq, not_true, if_false]
        exact hst
      · exact ⟨_, rest, (0, 0), by rw [Hj hT]; exact hnew, A5.ext hext _ _ hrow, fun _ => rfl⟩
  · cases hv
def Dn (P : Program) (t : TypeId) : Option (List AVal) :=
 match P.info? t with
 | some i => match i.zero with
   | some z => z.cells.toList.mapM (D4 3)
   | none => none
 | none => none
theorem Xj {P : Program} {w : World} {bs : List Nat} {H : Hz} {t : TypeId} {zs : List AVal} (h : Dn P t = some zs) :
 ∃ z : Value, (zeroValue t).run P w = .ok z w ∧ A5 F bs H w zs z.cells.toList := by
 unfold Dn at h
 split at h
 · rename_i i hi
   split at h
   · rename_i z hz
     exact ⟨z, by simp [zeroValue, B9 w hi, hz], Ie (fun v _ a ha => Rep.const 3 v a ha) h⟩
   · cases h
 · cases h
theorem L7 {W0 w : World} {bs : List Nat} {H : Hz} (hh : A7 W0 F bs H w) (T : TypeId) {cs : List AVal} {us : List Value} (hl : A5 F bs H w cs us) :
 Rep F (bs ++ [w.heap.size]) (H ++ [.cells T cs false]) (w.alloc (.cells us.toArray T)) (.ptr H.length 0) (.pointer (some ⟨w.heap.size, 0, none⟩)) ∧
 A7 W0 F (bs ++ [w.heap.size]) (H ++ [.cells T cs false]) (w.alloc (.cells us.toArray T)) ∧
 Ext bs H w (bs ++ [w.heap.size]) (H ++ [.cells T cs false]) (w.alloc (.cells us.toArray T)) := by
 have he := Ext.alloc hh.len (fun b hb => (hh.low b hb).2) (.cells us.toArray T) (.cells T cs false)
 refine ⟨?_, hh.alloc _ _ ⟨us, [], (0, 0), by rw [List.append_nil]; exact heap_alloc_new w _, A5.ext he _ _ hl, fun j _ => by simp⟩, he⟩
 simp only [Rep, Dx, List.getElem?_concat_length]
 exact ⟨⟨_, rfl⟩, w.heap.size, by rw [← hh.len]; simp, rfl⟩
theorem A2m {P : Program} {W0 w : World} {bs : List Nat} {H : Hz} (hh : A7 W0 F bs H w) {T : TypeId} {zs : List AVal} (hz : Dn P T = some zs) :
 ∃ cv w' bs', (Instr.alloc T true (.tuple #[])).run P w = .ok cv w' ∧ Rep F bs' (H ++ [.cells T zs false]) w' (.ptr H.length 0) cv ∧ A7 W0 F bs' (H ++ [.cells T zs false]) w' ∧ Ext bs H w bs' (H ++ [.cells T zs false]) w' := by
 obtain ⟨z, hr, hl⟩ := Xj (w := w) (bs := bs) (H := H) hz
 obtain ⟨h1, h2, h3⟩ := L7 hh T hl
 rw [Array.toArray_toList] at h1 h2 h3
 exact ⟨.pointer (some ⟨w.heap.size, 0, none⟩), w.alloc (.cells z.cells T), _, by simp [Instr.alloc, hr, newVar, newRow], h1, h2, h3⟩
theorem box_ok {P : Program} {W0 w : World} {bs : List Nat} {H : Hz} (hh : A7 W0 F bs H w) (T : TypeId) {x : AVal} {cx : Value} (hx : Rep F bs H w x cx) :
 ∃ cv w' bs', (Instr.box T cx).run P w = .ok cv w' ∧ Rep F bs' (H ++ [.cells T x.cells false]) w' (.ptr H.length 0) cv ∧ A7 W0 F bs' (H ++ [.cells T x.cells false]) w' ∧ Ext bs H w bs' (H ++ [.cells T x.cells false]) w' := by
 obtain ⟨h1, h2, h3⟩ := L7 hh T hx.cells
 rw [Array.toArray_toList] at h1 h2 h3
 exact ⟨.pointer (some ⟨w.heap.size, 0, none⟩), w.alloc (.cells cx.cells T), _, by simp [Instr.box, newVar, newRow], h1, h2, h3⟩
def Gv (H : Hz) (id : Nat) : Bool :=
 match H[id]? with
 | some (.cells _ _ false) => true
 | _ => false
def J3 (H : Hz) (id len : Nat) : Bool :=
 match H[id]? with
 | some (.cells _ cs true) => Nat.beq cs.length len
 | _ => false
theorem Zg {bs : List Nat} {H : Hz} {id off len : Nat} {v : Value} (hg : J3 H id len = true) (h : Dy bs H id off len v) : ∃ b, bs[id]? = some b ∧ v = .pointer (some ⟨b, off, none⟩) ∧ ∀ off', Dy bs H id off' len (.pointer (some ⟨b, off', none⟩)) := by
 unfold J3 at hg
 split at hg
 · rename_i T cs ho
   unfold Dy at h ⊢
   rw [ho] at h ⊢
   obtain ⟨b, hb, hv⟩ := h.2 (nBq hg)
   exact ⟨b, hb, hv, fun off' => ⟨h.1, fun _ => ⟨b, hb, rfl⟩⟩⟩
 · cases hg
def V1 (H : Hz) (off : Nat) : AVal → Option AVal
 | .ptr id o => cond (Gv H id) (some (.ptr id (o + off))) none
 | .optr id o len => cond (J3 H id len) (some (.optr id (o + off) len)) none
 | .eptr e o => some (.eptr e (o + off))
 | _ => none
theorem Addr.add_at (b o n : Nat) : (⟨b, o, none⟩ : Addr).add n = ⟨b, o + n, none⟩ := by unfold Addr.add; split <;> simp_all
theorem Va {w : World} {bs : List Nat} {H : Hz} {off : Nat} {p q : AVal} {cp : Value} (hp : Rep F bs H w p cp) (h : V1 H off p = some q) :
 ∃ b o, cp = .pointer (some ⟨b, o, none⟩) ∧ Rep F bs H w q (.pointer (some ⟨b, o + off, none⟩)) := by
 cases p <;> simp only [V1] at h <;> try (cases h; done)
 case eptr e o =>
  injection h with h; subst h
  simp only [Rep] at hp ⊢
  obtain ⟨b, base, u, rfl, h1, h2, h3, h4⟩ := hp
  exact ⟨b, base + o, rfl, b, base, u, by simp [Nat.add_assoc], h1, h2, h3, h4⟩
 case ptr id o =>
  cases hl : Gv H id with
  | false => rw [hl] at h; cases h
  | true =>
    rw [hl] at h; injection h with h; subst h
    simp only [Rep] at hp ⊢
    obtain ⟨_, hp⟩ := hp
    unfold Gv at hl
    split at hl
    · rename_i T cs ho
      unfold Dx at hp ⊢
      rw [ho] at hp ⊢
      obtain ⟨b, hb, rfl⟩ := hp
      exact ⟨b, o, rfl, ⟨_, rfl⟩, b, hb, rfl⟩
    · cases hl
 case optr id o len =>
  cases hl : J3 H id len with
  | false => rw [hl] at h; cases h
  | true =>
    rw [hl] at h; injection h with h; subst h
    simp only [Rep] at hp ⊢
    obtain ⟨b, hb, rfl, hall⟩ := Zg hl hp.2
    exact ⟨b, o, rfl, ⟨_, rfl⟩, hall _⟩
def Vr (P : Program) (s : TypeId) (f : Nat) : Option Nat :=
 match P.underlying s with
 | some (.struct fields) => match fields[f]? with
   | some fd => match P.info? fd.type with
     | some i => cond (Nat.beq i.size 0) none (some fd.offset)
     | none => none
   | none => none
 | _ => none
theorem Ut {P : Program} {w : World} {bs : List Nat} {H : Hz} {s : TypeId} {f off : Nat} (hf : Vr P s f = some off) {p q : AVal} {cp : Value} (hp : Rep F bs H w p cp) (h : V1 H off p = some q) :
 ∃ cv, (Instr.fieldAt s cp f).run P w = .ok cv w ∧ Rep F bs H w q cv := by
 obtain ⟨b, o, rfl, hq⟩ := Va hp h
 refine ⟨_, ?_, hq⟩
 unfold Vr at hf
 split at hf
 · rename_i fields hu
   split at hf
   · rename_i fd hfd
     split at hf
     · rename_i i hi
       cases hz : Nat.beq i.size 0 with
       | true => rw [hz] at hf; cases hf
       | false =>
         rw [hz] at hf; injection hf with hf; subst hf
         have hz' : i.size ≠ 0 := fun e => by rw [e] at hz; cases hz
         have hs : (sizeOf fd.type).run P w = .ok i.size w := by simp [sizeOf, B9 w hi]
         simp [Instr.fieldAt, A3 w hu, hfd, Instr.sureAddr, fieldPlace, hs, hz', Addr.add_at]
     · cases hf
   · cases hf
 · cases hf
def anil (H : Hz) : AVal → Option AVal
 | .ptr id o => cond (Gv H id) (some (.ptr id o)) none
 | .optr id o len => cond (J3 H id len) (some (.optr id o len)) none
 | .eptr e o => some (.eptr e o)
 | .fn f a b => some (.fn f a b)
 | _ => none
theorem anil_ok {P : Program} {w : World} {bs : List Nat} {H : Hz} {o : Oper} {x : Operand} (hop : o.op = .nilCheck x) {a : Act} {p q : AVal} (hp : Rep F bs H w p (a.eval x)) (h : anil H p = some q) :
 (execOp a.eval o).run P w = .ok (.value (a.eval x)) w ∧ Rep F bs H w q (a.eval x) := by
 have key : q = p ∧ ((∃ b, a.eval x = .pointer (some b)) ∨ ∃ f fs cs, a.eval x = .func (.func f) fs cs) := by
  cases p <;> simp only [anil] at h <;> try (cases h; done)
  case eptr e off =>
   injection h with h
   simp only [Rep] at hp
   obtain ⟨b, base, u, hv, _⟩ := hp
   exact ⟨h.symm, .inl ⟨_, hv⟩⟩
  case ptr id off =>
   cases hl : Gv H id with
   | false => rw [hl] at h; cases h
   | true =>
     rw [hl] at h; injection h with h
     obtain ⟨b, o, hv, _⟩ := Va (off := 0) (q := .ptr id (off + 0)) hp (by simp [V1, hl])
     exact ⟨h.symm, .inl ⟨_, hv⟩⟩
  case optr id off len =>
   cases hl : J3 H id len with
   | false => rw [hl] at h; cases h
   | true =>
     rw [hl] at h; injection h with h
     simp only [Rep] at hp
     obtain ⟨b, hb, hv, _⟩ := Zg hl hp.2
     exact ⟨h.symm, .inl ⟨_, hv⟩⟩
  case fn f a1 b1 =>
   injection h with h
   simp only [Rep] at hp
   obtain ⟨fs, cs, hv, _⟩ := hp
   exact ⟨h.symm, .inr ⟨f, _, _, hv⟩⟩
 obtain ⟨rfl, hk⟩ := key
 refine ⟨?_, hp⟩
 rcases hk with ⟨b, hv⟩ | ⟨f, fs, cs, hv⟩
 · simp [execOp, hop, hv]
 · simp [execOp, hop, hv]
def Rm (i : Nat) : AVal → Option AVal
 | .tup vs => match vs.drop i with
   | v :: _ => some v
   | [] => none
 | _ => none
theorem W3 {P : Program} {w : World} {bs : List Nat} {H : Hz} {i : Nat} {p q : AVal} {cp : Value} (hp : Rep F bs H w p cp) (h : Rm i p = some q) :
 ∃ cv, (Instr.extract cp i).run P w = .ok cv w ∧ Rep F bs H w q cv := by
 cases p <;> simp only [Rm] at h <;> try (cases h; done)
 case tup vs =>
  simp only [Rep] at hp
  obtain ⟨us, rfl, hl⟩ := hp
  cases hd : vs.drop i with
  | nil => simp [hd] at h
  | cons c rest =>
    simp only [hd, iS] at h
    subst h
    have hget : vs[i]? = some c := by
     have := congrArg (fun l => l[0]?) hd
     simpa using this
    obtain ⟨u, hu, hr⟩ := hl.get hget
    exact ⟨u, by simp [Instr.extract, hu], hr⟩
abbrev AV := AVal × List (Int × Int)
def Qr (a b : IntKind) : Bool := Nat.beq a.ctorIdx b.ctorIdx
theorem V7 {a b : IntKind} (h : Qr a b = true) : a = b := by cases a <;> cases b <;> first | rfl | (exact absurd h (by decide))
def Vy (op : BinOp) (k : IntKind) (a b : Int) : Option AV :=
 match op with
 | .add => some (.int k (k.wrap (a + b)), [])
 | .sub => some (.int k (k.wrap (a - b)), [])
 | .mul => some (.int k (k.wrap (a * b)), [])
 | .quo => some (.int k (k.wrap (a.tdiv b)), [(1, b * b)])
 | .rem => some (.int k (a.tmod b), [(1, b * b)])
 | .eql => some (.bool (a == b), [])
 | .neq => some (.bool (a != b), [])
 | .lss => some (.bool (decide (a < b)), [])
 | .leq => some (.bool (decide (a ≤ b)), [])
 | .gtr => some (.bool (decide (b < a)), [])
 | .geq => some (.bool (decide (b ≤ a)), [])
 | .and => some (.int k (k.wrap (BitVec.ofInt k.bits a &&& BitVec.ofInt k.bits b).toNat), [])
 | .or => some (.int k (k.wrap (BitVec.ofInt k.bits a ||| BitVec.ofInt k.bits b).toNat), [])
 | _ => none
def Yp (op : BinOp) (a b : Bz) : Option AV :=
 match op with
 | .add => some (.str (a ++ b), [((a.length + b.length : Nat), 140737488355328)])
 | .eql => some (.bool (a == b), [])
 | .neq => some (.bool (!(a == b)), [])
 | .lss => some (.bool (Op.bytesLess a b), [])
 | _ => none
def Ui : AVal → AVal → Option Bool
 | .bool a, .bool b => some (a == b)
 | .nilPtr, .nilPtr => some true
 | .eptr _ _, .nilPtr => some false
 | .nilSl, .nilSl => some true
 | .emp, .nilSl => some false
 | .row _ (_ :: _), .nilSl => some false
 | .hsl _ _ _ _ _, .nilSl => some false
 | .ptr _ _, .nilPtr => some false
 | .optr _ _ _, .nilPtr => some false
 | .nilFn, .nilFn => some true
 | .fn _ _ _, .nilFn => some false
 | .nilIf, .nilIf => some true
 | .iface _ _, .nilIf => some false
 | _, _ => none
def Si : AVal → TypeDesc → Bool
 | .bool _, .bool => true
 | .nilPtr, .pointer _ => true
 | .nilSl, .slice _ => true
 | .nilFn, .func _ _ _ => true
 | .nilIf, .interface _ => true
 | _, _ => false
def V9 (op : BinOp) (d : Option TypeDesc) (x y : AVal) : Option AV :=
 match d with
 | none => none
 | some d =>
   match Ui x y with
   | some r => cond (Si y d) (match op with
     | .eql => some (.bool r, [])
     | .neq => some (.bool (!r), [])
     | _ => none) none
   | none => none
def Ws (op : BinOp) (d : Option TypeDesc) (x y : AVal) : Option AV :=
 match x, y with
 | .int k a, .int k' b =>
   match op with
   | .shl => some (.int k (k.wrap (a * 2 ^ (min b.toNat k.bits))), [(0, b)])
   | .shr => some (.int k (a.fdiv (2 ^ (min b.toNat k.bits))), [(0, b)])
   | op => cond (Qr k k') (Vy op k a b) none
 | .str a, .str b => Yp op a b
 | x, y => V9 op d x y
theorem N3 {P : Program} {w : World} (op : BinOp) (t : TypeId) (x y : Operand) (a b : Value) (h1 : ¬ (a = .nilIface ∧ b = .nilIface) ∨ ∃ c, y = .const c) (h2 : ∀ c, a ≠ .agg c) :
 (eqGuard op t x y a b).run P w = .ok () w := by
 have key : ∀ op, (op = .eql ∨ op = .neq) → (eqGuard op t x y a b).run P w = .ok () w := by
  rintro op hop
  cases a with
  | nilIface =>
    cases b with
    | nilIface =>
      rcases h1 with h | ⟨c, rfl⟩
      · exact absurd ⟨rfl, rfl⟩ h
      · rcases hop with rfl | rfl <;> cases x <;> rfl
    | _ => rcases hop with rfl | rfl <;> rfl
  | agg c => exact absurd rfl (h2 c)
  | _ => rcases hop with rfl | rfl <;> rfl
 cases op <;> first | (exact key _ (.inl rfl)) | (exact key _ (.inr rfl)) | rfl
theorem aint_ok {P : Program} {w : World} {bs : List Nat} {H : Hz} {op : BinOp} {k : IntKind} {a b : Int} {v : AVal} {side : List (Int × Int)} (t : TypeId) (h : Vy op k a b = some (v, side)) (hs : Af side) :
 ∃ cv, (binOp op t (.int k a) (.int k b)).run P w = .ok cv w ∧ Rep F bs H w v cv := by
 have nz : (1 : Int) ≤ b * b → b ≠ 0 := fun h e => by subst e; simp at h
 cases op <;> simp only [Vy, iS, iP, reduceCtorEq] at h <;> (try (exact h.elim)) <;> obtain ⟨rfl, rfl⟩ := h
 case quo => exact ⟨_, by simp only [binOp, ne_eq, not_true, if_false, Op.intDiv, if_neg (nz hs.1)]; rfl, by simp [Rep]⟩
 case rem => exact ⟨_, by simp only [binOp, ne_eq, not_true, if_false, Op.intDiv, if_neg (nz hs.1)]; rfl, by simp [Rep]⟩
 all_goals exact ⟨_, by simp only [binOp, ne_eq, not_true, if_false, Op.intArith, Op.intCmp, Op.intBits]; rfl, by simp [Rep]⟩
theorem astr_ok {P : Program} {w : World} {bs : List Nat} {H : Hz} {op : BinOp} {a b : Bz} {v : AVal} {side : List (Int × Int)} (t : TypeId) (h : Yp op a b = some (v, side)) (hs : Af side) :
 ∃ cv, (binOp op t (.string ⟨a.toArray⟩) (.string ⟨b.toArray⟩)).run P w = .ok cv w ∧ Rep F bs H w v cv := by
 cases op <;> simp only [Yp, iS, iP, reduceCtorEq] at h <;> (try (exact h.elim)) <;> obtain ⟨rfl, rfl⟩ := h
 case add =>
  refine ⟨.string ⟨(a ++ b).toArray⟩, ?_, by simp [Rep]⟩
  have hz : (ByteArray.mk a.toArray).size = a.length ∧ (ByteArray.mk b.toArray).size = b.length := ⟨by simp [ByteArray.size], by simp [ByteArray.size]⟩
  have hle : ¬ (((ByteArray.mk a.toArray).size + (ByteArray.mk b.toArray).size : Nat) : Int) > IntKind.i64.max := by
   rw [hz.1, hz.2]
   have h1 := hs.1
   simp only at h1
   simp only [IntKind.max, IntKind.bits, IntKind.signed]
   have : (2 : Int) ^ 63 - 1 = 9223372036854775807 := by decide
   simp
   omega
  have hap : ByteArray.mk a.toArray ++ ByteArray.mk b.toArray = ByteArray.mk (a ++ b).toArray := by
   apply ByteArray.ext
   simp [ByteArray.data_append]
  simp only [binOp, Op.stringOp, if_neg hle, hap]
  rfl
 all_goals
  refine ⟨_, by simp only [binOp, Op.stringOp, ByteArray.toList_mk]; rfl, by simp [Rep]⟩
theorem A0j {P : Program} {w : World} {bs : List Nat} {H : Hz} {x y : AVal} {cx cy : Value} {r : Bool} {t : TypeId} {d : TypeDesc} (hx : Rep F bs H w x cx) (hy : Rep F bs H w y cy) (h : Ui x y = some r) (hd : Si y d = true) (hu : P.underlying t = some d) :
 (Op.equal t cx cy).run P w = .ok r w ∧ (∀ c, cx ≠ .agg c) ∧ (∀ op, binOp op t cx cy = (match op with | .eql => do pure (.bool (← Op.equal t cx cy)) | .neq => do pure (.bool (!(← Op.equal t cx cy))) | _ => binOp op t cx cy)) := by
 unfold Ui at h
 split at h <;> first | (cases h; done) | (injection h with h; subst h)
 all_goals (cases d <;> simp only [Si, bFt] at hd)
 all_goals simp only [Rep] at hx hy
 case h_1 => subst hx; subst hy; exact ⟨(fun n => by simp only [Op.equalIn, sRb, A3 w hu, rAo]; rfl : ∀ n, (Op.equalIn (n + 1) t _ _).run P w = .ok _ w) 9999, fun c e => by (injection e), fun op => by cases op <;> rfl⟩
 case h_2 => subst hx; subst hy; exact ⟨(fun n => by simp only [Op.equalIn, sRb, A3 w hu, rAo]; rfl : ∀ n, (Op.equalIn (n + 1) t _ _).run P w = .ok _ w) 9999, fun c e => by (injection e), fun op => by cases op <;> rfl⟩
 case h_3 =>
  subst hy; obtain ⟨b, base, u, rfl, _⟩ := hx
  exact ⟨(fun n => by simp only [Op.equalIn, sRb, A3 w hu, rAo]; rfl : ∀ n, (Op.equalIn (n + 1) t _ _).run P w = .ok _ w) 9999, fun c e => by (injection e), fun op => by cases op <;> rfl⟩
 case h_4 => subst hx; subst hy; exact ⟨(fun n => by simp only [Op.equalIn, sRb, A3 w hu, rAo]; rfl : ∀ n, (Op.equalIn (n + 1) t _ _).run P w = .ok _ w) 9999, fun c e => by (injection e), fun op => by cases op <;> rfl⟩
 case h_5 =>
  subst hy; obtain ⟨a, rfl⟩ := hx
  exact ⟨(fun n => by simp only [Op.equalIn, sRb, A3 w hu, rAo]; rfl : ∀ n, (Op.equalIn (n + 1) t _ _).run P w = .ok _ w) 9999, fun c e => by (injection e), fun op => by cases op <;> rfl⟩
 case h_6 k e es =>
  subst hy
  obtain ⟨a, cap, vs, rfl, hl, _, hrow⟩ := hx
  cases a with
  | none => have := hl.length; rw [hrow.1] at this; simp at this
  | some a => exact ⟨(fun n => by simp only [Op.equalIn, sRb, A3 w hu, rAo]; rfl : ∀ n, (Op.equalIn (n + 1) t _ _).run P w = .ok _ w) 9999, fun c e => by (injection e), fun op => by cases op <;> rfl⟩
 case h_7 =>
  subst hy; obtain ⟨⟨a, c, _, rfl⟩, _⟩ := hx
  exact ⟨(fun n => by simp only [Op.equalIn, sRb, A3 w hu, rAo]; rfl : ∀ n, (Op.equalIn (n + 1) t _ _).run P w = .ok _ w) 9999, fun c e => by (injection e), fun op => by cases op <;> rfl⟩
 case h_8 =>
  subst hy; obtain ⟨⟨a, rfl⟩, _⟩ := hx
  exact ⟨(fun n => by simp only [Op.equalIn, sRb, A3 w hu, rAo]; rfl : ∀ n, (Op.equalIn (n + 1) t _ _).run P w = .ok _ w) 9999, fun c e => by (injection e), fun op => by cases op <;> rfl⟩
 case h_9 =>
  subst hy; obtain ⟨⟨a, rfl⟩, _⟩ := hx
  exact ⟨(fun n => by simp only [Op.equalIn, sRb, A3 w hu, rAo]; rfl : ∀ n, (Op.equalIn (n + 1) t _ _).run P w = .ok _ w) 9999, fun c e => by (injection e), fun op => by cases op <;> rfl⟩
 case h_10 => subst hx; subst hy; exact ⟨(fun n => by simp only [Op.equalIn, sRb, A3 w hu, rAo]; rfl : ∀ n, (Op.equalIn (n + 1) t _ _).run P w = .ok _ w) 9999, fun c e => by (injection e), fun op => by cases op <;> rfl⟩
 case h_11 =>
  subst hy; obtain ⟨fs, cs, rfl, _⟩ := hx
  exact ⟨(fun n => by simp only [Op.equalIn, sRb, A3 w hu, rAo]; rfl : ∀ n, (Op.equalIn (n + 1) t _ _).run P w = .ok _ w) 9999, fun c e => by (injection e), fun op => by cases op <;> rfl⟩
 case h_12 => subst hx; subst hy; exact ⟨(fun n => by simp only [Op.equalIn, sRb, A3 w hu, rAo]; rfl : ∀ n, (Op.equalIn (n + 1) t _ _).run P w = .ok _ w) 9999, fun c e => by (injection e), fun op => by cases op <;> rfl⟩
 case h_13 =>
  subst hy; obtain ⟨u, rfl, _⟩ := hx
  exact ⟨(fun n => by simp only [Op.equalIn, sRb, A3 w hu, rAo]; rfl : ∀ n, (Op.equalIn (n + 1) t _ _).run P w = .ok _ w) 9999, fun c e => by (injection e), fun op => by cases op <;> rfl⟩
theorem abin_ok {P : Program} {w : World} {bs : List Nat} {H : Hz} {op : BinOp} {t : TypeId} {d : Option TypeDesc} {x y : AVal} {cx cy : Value} {v : AVal} {side : List (Int × Int)} {ox oy : Operand}
 (hx : Rep F bs H w x cx) (hy : Rep F bs H w y cy) (h : Ws op d x y = some (v, side)) (hs : Af side) (hu : ∀ d', d = some d' → P.underlying t = some d')
 (hc : ∀ ms, d = some (.interface ms) → ∃ c, oy = .const c) :
 ∃ cv, (do eqGuard op t ox oy cx cy; binOp op t cx cy : Sem Value).run P w = .ok cv w ∧ Rep F bs H w v cv := by
 have rest : ∀ {x y : AVal} {cx cy : Value}, Rep F bs H w x cx → Rep F bs H w y cy →
  V9 op d x y = some (v, side) → ∃ cv, (do eqGuard op t ox oy cx cy; binOp op t cx cy : Sem Value).run P w = .ok cv w ∧ Rep F bs H w v cv := by
  intro x y cx cy hx hy h
  unfold V9 at h
  cases d with
  | none => cases h
  | some d =>
    simp only at h
    cases hn : Ui x y with
    | none => simp [hn] at h
    | some r =>
      simp only [hn] at h
      cases hd : Si y d with
      | false => rw [hd] at h; cases h
      | true =>
        simp only [hd, cond_true] at h
        obtain ⟨he, hagg, hb⟩ := A0j (P := P) hx hy hn hd (hu d rfl)
        have hg : (eqGuard op t ox oy cx cy).run P w = .ok () w := by
         refine N3 op t ox oy cx cy ?_ hagg
         by_cases hnn : cx = .nilIface ∧ cy = .nilIface
         · refine .inr ?_
           obtain ⟨_, rfl⟩ := hnn
           cases d <;> cases y <;> simp only [Si, bFt] at hd <;> simp only [Rep] at hy <;> first
            | (cases hy; done)
            | exact hc _ rfl
         · exact .inl hnn
        cases op <;> simp only [iS, iP, reduceCtorEq] at h <;> (try (exact h.elim)) <;> obtain ⟨rfl, rfl⟩ := h
        · exact ⟨.bool r, by rw [sRb, hg, rAo, hb .eql]; simp [he], by simp [Rep]⟩
        · exact ⟨.bool (!r), by rw [sRb, hg, rAo, hb .neq]; simp [he], by simp [Rep]⟩
 unfold Ws at h
 split at h
 · rename_i k a k' b
   simp only [Rep] at hx hy
   subst hx; subst hy
   have hg : (eqGuard op t ox oy (.int k a) (.int k' b)).run P w = .ok () w := N3 op t ox oy _ _ (.inl (fun e => by cases e.1)) (fun c e => by injection e)
   have arith : cond (Qr k k') (Vy op k a b) none = some (v, side) → (op ≠ .shl ∧ op ≠ .shr) → ∃ cv, (do eqGuard op t ox oy (.int k a) (.int k' b); binOp op t (.int k a) (.int k' b) : Sem Value).run P w = .ok cv w ∧ Rep F bs H w v cv := by
    intro h' _
    cases hk : Qr k k' with
    | false => rw [hk] at h'; cases h'
    | true =>
      rw [hk, cond_true] at h'
      have := V7 hk
      subst this
      obtain ⟨cv, h1, h2⟩ := aint_ok (P := P) (w := w) (bs := bs) (H := H) t h' hs
      exact ⟨cv, by rw [sRb, hg, rAo]; exact h1, h2⟩
   cases op
   case shl =>
    simp only [iS, iP] at h
    obtain ⟨rfl, rfl⟩ := h
    have h0 : ¬ b < 0 := by have := hs.1; simp at this; omega
    exact ⟨.int k (k.wrap (a * 2 ^ (min b.toNat k.bits))), by rw [sRb, hg, rAo]; simp only [binOp, Op.shift, if_neg h0]; rfl, by simp [Rep]⟩
   case shr =>
    simp only [iS, iP] at h
    obtain ⟨rfl, rfl⟩ := h
    have h0 : ¬ b < 0 := by have := hs.1; simp at this; omega
    exact ⟨.int k (a.fdiv (2 ^ (min b.toNat k.bits))), by rw [sRb, hg, rAo]; simp only [binOp, Op.shift, if_neg h0]; rfl, by simp [Rep]⟩
   all_goals exact arith h (by simp)
 · rename_i a b
   simp only [Rep] at hx hy
   subst hx; subst hy
   have hg : (eqGuard op t ox oy (.string ⟨a.toArray⟩) (.string ⟨b.toArray⟩)).run P w = .ok () w := N3 op t ox oy _ _ (.inl (fun e => by cases e.1)) (fun c e => by injection e)
   obtain ⟨cv, h1, h2⟩ := astr_ok (P := P) (w := w) (bs := bs) (H := H) t h hs
   exact ⟨cv, by rw [sRb, hg, rAo]; exact h1, h2⟩
 · exact rest hx hy h
def aun (op : UnOp) : AVal → Option AVal
 | .bool b => match op with
   | .not => some (.bool (!b))
   | _ => none
 | .int k n => match op with
   | .neg => some (.int k (k.wrap (0 - n)))
   | _ => none
 | _ => none
theorem aun_ok {P : Program} {w : World} {bs : List Nat} {H : Hz} {op : UnOp} {x v : AVal} {cx : Value} (hx : Rep F bs H w x cx) (h : aun op x = some v) :
 ∃ cv, (Op.unary op cx).run P w = .ok cv w ∧ Rep F bs H w v cv := by
 cases x <;> simp only [aun] at h <;> try (cases h; done)
 · simp only [Rep] at hx; subst hx
   cases op <;> simp only [iS, reduceCtorEq] at h
   subst h; exact ⟨_, rfl, by simp [Rep]⟩
 · simp only [Rep] at hx; subst hx
   cases op <;> simp only [iS, reduceCtorEq] at h
   subst h; exact ⟨_, rfl, by simp [Rep]⟩
def A0w : AVal → Option Int
 | .str s => some (s.length : Nat)
 | .row _ es => some (es.length : Nat)
 | .nilSl => some 0
 | .emp => some 0
 | .hsl _ _ _ len _ => some (len : Nat)
 | _ => none
def lenable (P : Program) (t : TypeId) : Bool :=
 match P.underlying t with
 | some .string => true
 | some (.slice _) => true
 | _ => false
theorem alen_ok {P : Program} {w : World} {bs : List Nat} {H : Hz} {x : AVal} {cx : Value} {n : Int} {t T : TypeId} {xs : Array Value} {ts : Array TypeId} (hx : Rep F bs H w x cx) (h : A0w x = some n) (ht : ts[0]? = some t) (hxs : xs[0]? = some cx) (hd : ∃ d, P.underlying t = some d ∧ ((d = .string ∧ ∃ s, x = .str s) ∨ ((∃ e, d = .slice e) ∧ ∀ s, x ≠ .str s))) :
 (Builtin.len_ ts T xs).run P w = .ok (.int .i64 n) w := by
 obtain ⟨d, hu, hd⟩ := hd
 have key : ∀ r, (∀ w' : World, w' = w → (match d, cx with
  | .string, .string s => pure (goInt s.size)
  | .slice _, .slice _ n _ => pure (goInt n)
  | _, _ => stuck "" : Sem Value).run P w' = .ok r w') → (Builtin.len_ ts T xs).run P w = .ok r w := by
  intro r hr
  have := hr w rfl
  simp only [Builtin.len_, ht, hxs, sRb, A3 w hu, rAo]
  split at this <;> first | exact this | (simp only [run_stuck] at this; cases this)
 apply key
 rintro w' rfl
 cases x <;> simp only [A0w, iS, reduceCtorEq] at h <;> simp only [Rep] at hx
 · rcases hd with ⟨rfl, _⟩ | ⟨_, hn⟩
   · subst hx; subst h; simp [goInt, ByteArray.size]
   · exact absurd rfl (hn _)
 · rcases hd with ⟨_, s, hs⟩ | ⟨⟨e, rfl⟩, _⟩
   · cases hs
   · subst hx; subst h; rfl
 · rcases hd with ⟨_, s, hs⟩ | ⟨⟨e, rfl⟩, _⟩
   · cases hs
   · obtain ⟨a, rfl⟩ := hx; subst h; rfl
 · rcases hd with ⟨_, s, hs⟩ | ⟨⟨e, rfl⟩, _⟩
   · cases hs
   · obtain ⟨a, cap, vs, rfl, _⟩ := hx; subst h; rfl
 · rcases hd with ⟨_, s, hs⟩ | ⟨⟨e, rfl⟩, _⟩
   · cases hs
   · obtain ⟨⟨a, c, _, rfl⟩, _⟩ := hx; subst h; rfl
theorem We {k : Nat} : ∀ {vs : List Value} {i : Nat} {u : Value} (_ : ∀ v ∈ vs, v.cells.size = k) (_ : vs[i]? = some u) {j : Nat} {x : Value} (_ : u.cells.toList[j]? = some x), (flat vs)[i * k + j]? = some x
 | [], _, _, _, h, _, _, _ => by simp at h
 | v :: vs, 0, u, hk, h, j, x, hx => by
   simp at h; subst h
   simp only [flat, List.flatMap_cons, Nat.zero_mul, Nat.zero_add]
   rw [List.getElem?_append_left (List.getElem?_eq_some_iff.1 hx).1]; exact hx
 | v :: vs, i + 1, u, hk, h, j, x, hx => by
   have hv := hk v (by simp)
   have ih := We (vs := vs) (i := i) (fun u hu => hk u (by simp [hu])) (by simpa using h) hx
   simp only [flat, List.flatMap_cons] at ih ⊢
   have hl : v.cells.toList.length = k := by simpa using hv
   rw [List.getElem?_append_right (by rw [hl, Nat.add_mul]; omega), hl, show (i + 1) * k + j - k = i * k + j by rw [Nat.add_mul]; omega]
   exact ih
def Ar (s : Bz) (lo hi : Option Int) : AV :=
 match lo, hi with
 | none, none => (.str s, [])
 | some l, none => (.str (s.drop l.toNat), [(0, l), (l, (s.length : Nat))])
 | none, some h => (.str (s.take h.toNat), [(0, h), (h, (s.length : Nat))])
 | some l, some h => (.str ((s.take h.toNat).drop l.toNat), [(0, l), (l, h), (h, (s.length : Nat))])
def Au (k : Nat) (es : List AVal) (lo hi : Option Int) : AV :=
 match lo, hi with
 | none, none => (.row k es, [])
 | some l, none => (.row k (es.drop l.toNat), [(0, l), (l, (es.length : Nat))])
 | none, some h => (.row k (es.take h.toNat), [(0, h), (h, (es.length : Nat))])
 | some l, some h => (.row k ((es.take h.toNat).drop l.toNat), [(0, l), (l, h), (h, (es.length : Nat))])
theorem Ee {P : Program} {w : World} {k : IntKind} {i : Int} {y : Nat} {code : BoundsCode} (h0 : 0 ≤ i) (h1 : i ≤ y) :
 (Instr.sliceBound (.int k i) y code).run P w = .ok i.toNat w := by
 simp [Instr.sliceBound, asIntOf, h0, h1]
theorem Bw {P : Program} {w : World} (isSlice : Bool) (len cap : Nat) (hlc : len ≤ cap) {clo chi : Option Value} {lo hi : Option Int}
 (hlo : (lo = none ∧ clo = none) ∨ ∃ k n, lo = some n ∧ clo = some (.int k n)) (hhi : (hi = none ∧ chi = none) ∨ ∃ k n, hi = some n ∧ chi = some (.int k n))
 (h0 : 0 ≤ lo.getD 0) (h1 : lo.getD 0 ≤ hi.getD len) (h2 : hi.getD len ≤ len) :
 (Instr.sliceBounds isSlice len cap clo chi none).run P w = .ok ((lo.getD 0).toNat, (hi.getD len).toNat, cap) w := by
 rcases hlo with ⟨rfl, rfl⟩ | ⟨k, n, rfl, rfl⟩ <;> rcases hhi with ⟨rfl, rfl⟩ | ⟨k', n', rfl, rfl⟩ <;> simp only [Option.getD] at h0 h1 h2 ⊢
 · simp [Instr.sliceBounds]
 · simp only [Instr.sliceBounds, sRb, Sem.run_pure, rAo]
   rw [Ee (by omega) (by omega)]
   simp
 · simp only [Instr.sliceBounds, sRb, Sem.run_pure, rAo]
   rw [Ee (by omega) (by omega)]
   simp
 · simp only [Instr.sliceBounds, sRb, Sem.run_pure, rAo]
   rw [Ee (by omega) (by omega)]
   simp only [rAo]
   rw [Ee (by omega) (by omega)]
   simp
theorem Yy {P : Program} {w : World} {bs : List Nat} {H : Hz} {s : Bz} {clo chi : Option Value} {lo hi : Option Int} {t : TypeId} {v : AVal} {side : List (Int × Int)}
 (hu : P.underlying t = some .string)
 (hlo : (lo = none ∧ clo = none) ∨ ∃ k n, lo = some n ∧ clo = some (.int k n)) (hhi : (hi = none ∧ chi = none) ∨ ∃ k n, hi = some n ∧ chi = some (.int k n))
 (h : Ar s lo hi = (v, side)) (hs : Af side) :
 ∃ cv, (Instr.sliceAt t (.string ⟨s.toArray⟩) clo chi none).run P w = .ok cv w ∧ Rep F bs H w v cv := by
 have hz : (ByteArray.mk s.toArray).size = s.length := by simp [ByteArray.size]
 have hb : 0 ≤ lo.getD 0 ∧ lo.getD 0 ≤ hi.getD (s.length : Nat) ∧ hi.getD (s.length : Nat) ≤ (s.length : Nat) := by
  cases lo <;> cases hi <;> simp only [Ar, iP] at h <;> obtain ⟨_, rfl⟩ := h <;> simp only [Af] at hs <;> simp only [Option.getD] <;> omega
 have hr := Bw (P := P) (w := w) false s.length s.length (Nat.le_refl _) hlo hhi hb.1 hb.2.1 hb.2.2
 refine ⟨.string ((ByteArray.mk s.toArray).extract (lo.getD 0).toNat (hi.getD (s.length : Nat)).toNat), ?_, ?_⟩
 · simp only [Instr.sliceAt, Instr.slice, sRb, A3 w hu, rAo, hz, Option.isSome_none, bFt, if_false, hr]
   rfl
 · have hv : v = .str (((s.drop (lo.getD 0).toNat)).take ((hi.getD (s.length : Nat)).toNat - (lo.getD 0).toNat)) := by
    cases lo <;> cases hi <;> simp only [Ar, iP] at h <;> obtain ⟨rfl, _⟩ := h <;> simp only [Option.getD]
    · simp
    · simp
    · simp [List.take_of_length_le]
    · rw [List.drop_take]
   rw [hv]
   simp only [Rep, ByteArray.extract_mk]
def Dv (P : Program) (t : TypeId) : Option (TypeId × Nat) :=
 match P.underlying t with
 | some (.slice e) => match P.info? e with
   | some i => some (e, i.size)
   | none => none
 | _ => none
theorem Em {P : Program} {t e : TypeId} {k : Nat} (h : Dv P t = some (e, k)) : P.underlying t = some (.slice e) ∧ ∀ w, (sizeOf e).run P w = .ok k w := by
 unfold Dv at h
 split at h
 · rename_i e' hu
   split at h
   · rename_i i hi
     simp only [iS, iP] at h
     obtain ⟨rfl, rfl⟩ := h
     exact ⟨hu, fun w => by simp [sizeOf, B9 w hi]⟩
   · cases h
 · cases h
theorem Kq {k : Nat} : ∀ {vs : List Value} (_ : ∀ v ∈ vs, v.cells.size = k), (flat vs).length = vs.length * k
 | [], _ => by simp [flat]
 | v :: vs, h => by
   have ih := Kq (vs := vs) (fun u hu => h u (by simp [hu]))
   have hv := h v (by simp)
   simp only [flat, List.flatMap_cons, lAp] at ih ⊢
   rw [ih]
   simp [hv, Nat.add_mul, Nat.add_comm]
theorem P5 (vs us : List Value) : flat (vs ++ us) = flat vs ++ flat us := by simp [flat]
theorem G4.sub {bs : List Nat} {w : World} {k : Nat} {a : Addr} {vs : List Value} {cap : Nat} (h : G4 F bs w (some a) vs cap) (hk : ∀ v ∈ vs, v.cells.size = k) (l m : Nat) (hl : l ≤ vs.length) (hm : m = cap - l) :
 G4 F bs w (some (if cap = l then a else a.add (l * k))) ((vs.drop l).take m) (cap - l) ∧ (l + m ≤ cap) := by
 obtain ⟨h1, h2, h3⟩ := h
 have hcap : vs.length ≤ cap := h2
 refine ⟨?_, by omega⟩
 have hsplit : vs = vs.take l ++ vs.drop l := (List.take_append_drop l vs).symm
 have hfl : (flat (vs.take l)).length = l * k := by
  rw [Kq (k := k) (fun v hv => hk v (List.mem_of_mem_take hv)), List.length_take, Nat.min_eq_left hl]
 have htk : (vs.drop l).take m = vs.drop l := List.take_of_length_le (by rw [List.length_drop]; omega)
 rw [htk]
 by_cases hc : cap = l
 · have : vs.drop l = [] := List.drop_eq_nil_of_le (by omega)
   rw [if_pos hc, this]
   exact ⟨h1, by simp, fun j u hj => by simp [flat] at hj⟩
 · rw [if_neg hc]
   have ha : a.add (l * k) = if l * k = 0 then a else ⟨a.block, a.off + l * k, none⟩ := by unfold Addr.add; rfl
   have hblk : (a.add (l * k)).block = a.block ∧ (a.add (l * k)).off = a.off + l * k ∧ (a.add (l * k)).spot = none := by
    rw [ha]; split
    · rename_i h0; exact ⟨rfl, by omega, h1⟩
    · exact ⟨rfl, rfl, rfl⟩
   refine ⟨hblk.2.2, by rw [List.length_drop]; omega, fun j u hj => ?_⟩
   rw [hblk.1, hblk.2.1, Nat.add_assoc]
   refine h3 (l * k + j) u ?_
   rw [hsplit, P5, List.getElem?_append_right (by omega), hfl]
   simpa using hj
theorem G4.take {bs : List Nat} {w : World} {a : Option Addr} {vs : List Value} {cap : Nat} (h : G4 F bs w a vs cap) (m : Nat) : G4 F bs w a (vs.take m) cap := by
 cases a with
 | none => obtain ⟨rfl, rfl⟩ := h; exact ⟨by simp, rfl⟩
 | some a =>
   obtain ⟨h1, h2, h3⟩ := h
   refine ⟨h1, by rw [List.length_take]; omega, fun j u hj => h3 j u ?_⟩
   have hsplit : vs = vs.take m ++ vs.drop m := (List.take_append_drop m vs).symm
   rw [hsplit, P5]
   rw [List.getElem?_append_left (List.getElem?_eq_some_iff.1 hj).1]; exact hj
theorem Yi {P : Program} {w : World} {bs : List Nat} {H : Hz} {k : Nat} {es : List AVal} {clo chi : Option Value} {lo hi : Option Int} {t e : TypeId} {v : AVal} {cx : Value} {side : List (Int × Int)}
 (ht : Dv P t = some (e, k)) (hx : Rep F bs H w (.row k es) cx)
 (hlo : (lo = none ∧ clo = none) ∨ ∃ k n, lo = some n ∧ clo = some (.int k n)) (hhi : (hi = none ∧ chi = none) ∨ ∃ k n, hi = some n ∧ chi = some (.int k n))
 (h : Au k es lo hi = (v, side)) (hs : Af side) :
 ∃ cv, (Instr.sliceAt t cx clo chi none).run P w = .ok cv w ∧ Rep F bs H w v cv := by
 obtain ⟨hu, hsz⟩ := Em ht
 simp only [Rep] at hx
 obtain ⟨a, cap, vs, rfl, hl, hk, hrow⟩ := hx
 have hlen := hl.length
 have hcap : es.length ≤ cap := by
  cases a with
  | none => obtain ⟨h1, h2⟩ := hrow; simp [h1] at hlen; omega
  | some a => have := hrow.2.1; omega
 have hb : 0 ≤ lo.getD 0 ∧ lo.getD 0 ≤ hi.getD (es.length : Nat) ∧ hi.getD (es.length : Nat) ≤ (es.length : Nat) := by
  cases lo <;> cases hi <;> simp only [Au, iP] at h <;> obtain ⟨_, rfl⟩ := h <;> simp only [Af] at hs <;> simp only [Option.getD] <;> omega
 have hr := Bw (P := P) (w := w) true es.length cap hcap hlo hhi hb.1 hb.2.1 hb.2.2
 refine ⟨.slice (if cap = (lo.getD 0).toNat then a else a.map (·.add ((lo.getD 0).toNat * k))) ((hi.getD (es.length : Nat)).toNat - (lo.getD 0).toNat) (cap - (lo.getD 0).toNat), ?_, ?_⟩
 · simp only [Instr.sliceAt, Instr.slice, sRb, A3 w hu, rAo, hr, hsz]
   rfl
 · have hv : v = .row k ((es.take (hi.getD (es.length : Nat)).toNat).drop (lo.getD 0).toNat) := by
    cases lo <;> cases hi <;> simp only [Au, iP] at h <;> obtain ⟨rfl, _⟩ := h <;> simp only [Option.getD] <;> simp
   rw [hv]
   simp only [Rep]
   refine ⟨if cap = (lo.getD 0).toNat then a else a.map (·.add ((lo.getD 0).toNat * k)), cap - (lo.getD 0).toNat, (vs.take (hi.getD (es.length : Nat)).toNat).drop (lo.getD 0).toNat, ?_, (hl.take _).drop _, fun u hu => hk u (List.mem_of_mem_take (List.mem_of_mem_drop hu)), ?_⟩
   · congr 1
     rw [List.length_drop, List.length_take]; omega
   · cases a with
     | none =>
       obtain ⟨rfl, rfl⟩ := hrow
       simp [G4]
     | some a =>
       have h2 := (hrow.take (hi.getD (es.length : Nat)).toNat)
       have h3 := (G4.sub (k := k) h2 (fun u hu => hk u (List.mem_of_mem_take hu)) (lo.getD 0).toNat (cap - (lo.getD 0).toNat) (by rw [List.length_take]; omega) rfl).1
       rw [List.take_of_length_le (by rw [List.length_drop, List.length_take]; omega)] at h3
       have he : (if cap = (lo.getD 0).toNat then some a else (some a).map (·.add ((lo.getD 0).toNat * k))) = some (if cap = (lo.getD 0).toNat then a else a.add ((lo.getD 0).toNat * k)) := by split <;> rfl
       rw [he]; exact h3
theorem Yh {P : Program} {w : World} {bs : List Nat} {H : Hz} {s : Bz} {k : IntKind} {i : Int} {t : TypeId} (hu : P.underlying t = some .string) (h0 : 0 ≤ i) (h1 : i + 1 ≤ (s.length : Nat)) :
 ∃ cv, (Instr.index t (.string ⟨s.toArray⟩) (.int k i)).run P w = .ok cv w ∧ Rep F bs H w (.int .u8 (s.getD i.toNat 0).toNat) cv := by
 have hlt : i.toNat < s.length := by omega
 have hg : (ByteArray.mk s.toArray)[i.toNat]? = some s[i.toNat] := by
  rw [ByteArray.getElem?_lt' _ _ (by simpa [ByteArray.size] using hlt)]
  rfl
 refine ⟨.int .u8 (s.getD i.toNat 0).toNat, ?_, by simp [Rep]⟩
 have hd : s.getD i.toNat 0 = s[i.toNat] := by simp [List.getD, hlt]
 simp only [Instr.index, asIntOf, sRb, Sem.run_pure, rAo, A3 w hu, h0, if_true, hg, hd]
theorem Xw {P : Program} {w : World} {bs : List Nat} {H : Hz} {kk : Nat} {es : List AVal} {k : IntKind} {i : Int} {t e : TypeId} {cx : Value} (ht : Dv P t = some (e, kk)) (hk1 : 1 ≤ kk) (hx : Rep F bs H w (.row kk es) cx) (h0 : 0 ≤ i) (h1 : i + 1 ≤ (es.length : Nat)) (dflt : AVal) :
 ∃ cv, (Instr.indexAt t cx (.int k i)).run P w = .ok cv w ∧ Rep F bs H w (.eptr (es.getD i.toNat dflt) 0) cv := by
 obtain ⟨hu, hsz⟩ := Em ht
 simp only [Rep] at hx
 obtain ⟨a, cap, vs, rfl, hl, hk, hrow⟩ := hx
 have hlt : i.toNat < es.length := by omega
 have hget : es[i.toNat]? = some (es.getD i.toNat dflt) := by simp [List.getD, hlt]
 obtain ⟨u, hu', hru⟩ := hl.get hget
 cases a with
 | none => obtain ⟨h2, _⟩ := hrow; subst h2; simp at hu'
 | some a =>
   obtain ⟨h2, h3, h4⟩ := hrow
   obtain ⟨ab, ao, asp⟩ := a
   simp only at h2
   subst h2
   have hus : u.cells.size = kk := hk u (mGe hu')
   have hx0 : ∀ j x, u.cells.toList[j]? = some x → (ab ∉ bs ∧ ¬ F ab) ∧ w.cell? ⟨ab, ao + i.toNat * kk + j, none⟩ = some x := fun j x hx => by
    have := h4 _ _ (We hk hu' hx)
    rwa [← Nat.add_assoc] at this
   have h00 : ∃ x, u.cells.toList[0]? = some x := ⟨u.cells.toList[0]'(by simp; omega), gGe _⟩
   obtain ⟨x0, hx00⟩ := h00
   obtain ⟨hnb, hc0⟩ := hx0 0 x0 hx00
   refine ⟨.pointer (some ⟨ab, ao + i.toNat * kk, none⟩), ?_, ?_⟩
   · have hii : 0 ≤ i ∧ i < (es.length : Int) := by omega
     simp only [Instr.indexAt, asIntOf, sRb, Sem.run_pure, rAo, A3 w hu, hii, and_self, if_true, hsz, Addr.add_at]
   · simp only [Rep]
     exact ⟨ab, ao + i.toNat * kk, u, by simp, hru, hnb, World.block_lt_of_cell? w ⟨ab, ao + i.toNat * kk + 0, none⟩ hc0, fun j x hx => (hx0 j x hx).2⟩
theorem Y2 {P : Program} {w : World} {bs : List Nat} {H : Hz} {kk id off len : Nat} {cap : Option Nat} {k : IntKind} {i : Int} {t e : TypeId} {cx : Value} (ht : Dv P t = some (e, kk)) (hlive : Gv H id = true) (hx : Rep F bs H w (.hsl kk id off len cap) cx) (h0 : 0 ≤ i) (h1 : i + 1 ≤ (len : Nat)) :
 ∃ cv, (Instr.indexAt t cx (.int k i)).run P w = .ok cv w ∧ Rep F bs H w (.ptr id (off + i.toNat * kk)) cv := by
 obtain ⟨hu, hsz⟩ := Em ht
 simp only [Rep] at hx
 obtain ⟨_, hx⟩ := hx
 unfold Gv at hlive
 split at hlive
 · rename_i T cs ho
   unfold Bn at hx
   rw [ho] at hx
   obtain ⟨_, hx⟩ := hx
   obtain ⟨b, c, hb, rfl, hlc, _, _⟩ := hx (by simp)
   refine ⟨.pointer (some ⟨b, off + i.toNat * kk, none⟩), ?_, ?_⟩
   · have hii : 0 ≤ i ∧ i < (len : Int) := by omega
     simp only [Instr.indexAt, asIntOf, sRb, Sem.run_pure, rAo, A3 w hu, hii, and_self, if_true, hsz, Addr.add_at]
   · simp only [Rep, Dx, ho]
     exact ⟨⟨_, rfl⟩, b, hb, rfl⟩
 · cases hlive
theorem Wn {P : Program} {w : World} {bs : List Nat} {H : Hz} {kk id len : Nat} {cap : Option Nat} {k : IntKind} {i : Int} {t e : TypeId} {cx : Value} (ht : Dv P t = some (e, kk)) (hgood : J3 H id (len * kk) = true) (hx : Rep F bs H w (.hsl kk id 0 len cap) cx) (h0 : 0 ≤ i) (h1 : i + 1 ≤ (len : Nat)) :
 ∃ cv, (Instr.indexAt t cx (.int k i)).run P w = .ok cv w ∧ Rep F bs H w (.optr id (i.toNat * kk) (len * kk)) cv := by
 obtain ⟨hu, hsz⟩ := Em ht
 simp only [Rep] at hx
 obtain ⟨_, hx⟩ := hx
 unfold J3 at hgood
 split at hgood
 · rename_i T cs ho
   have hlen := nBq hgood
   unfold Bn at hx
   rw [ho] at hx
   obtain ⟨hle, hx⟩ := hx
   obtain ⟨b, c, hb, rfl, hlc, _, _⟩ := hx (fun _ => ⟨rfl, hlen.symm⟩)
   refine ⟨.pointer (some ⟨b, 0 + i.toNat * kk, none⟩), ?_, ?_⟩
   · have hii : 0 ≤ i ∧ i < (len : Int) := by omega
     simp only [Instr.indexAt, asIntOf, sRb, Sem.run_pure, rAo, A3 w hu, hii, and_self, if_true, hsz, Addr.add_at]
   · simp only [Rep, Dy, ho, Nat.zero_add]
     exact ⟨⟨_, rfl⟩, by omega, fun _ => ⟨b, hb, rfl⟩⟩
 · cases hgood
def Ld (P : Program) (t : TypeId) : Option (Nat × Nat) :=
 match P.underlying t with
 | some (.array n e) => match P.info? e with
   | some i => some (n, i.size)
   | none => none
 | _ => none
theorem Qv {P : Program} {t : TypeId} {n k : Nat} (h : Ld P t = some (n, k)) : ∃ e, P.underlying t = some (.array n e) ∧ ∀ w, (sizeOf e).run P w = .ok k w := by
 unfold Ld at h
 split at h
 · rename_i n' e' hu
   split at h
   · rename_i i hi
     simp only [iS, iP] at h
     obtain ⟨rfl, rfl⟩ := h
     exact ⟨e', hu, fun w => by simp [sizeOf, B9 w hi]⟩
   · cases h
 · cases h
theorem Xp {P : Program} {w : World} {bs : List Nat} {H : Hz} {n kk : Nat} {k : IntKind} {i : Int} {t : TypeId} {p q : AVal} {cp : Value} (ht : Ld P t = some (n, kk)) (hp : Rep F bs H w p cp) (h0 : 0 ≤ i) (h1 : i + 1 ≤ (n : Nat)) (h : V1 H (i.toNat * kk) p = some q) :
 ∃ cv, (Instr.indexAt t cp (.int k i)).run P w = .ok cv w ∧ Rep F bs H w q cv := by
 obtain ⟨e, hu, hsz⟩ := Qv ht
 obtain ⟨b, o, rfl, hq⟩ := Va hp h
 refine ⟨_, ?_, hq⟩
 have hii : 0 ≤ i ∧ i < (n : Int) := by omega
 simp only [Instr.indexAt, asIntOf, sRb, Sem.run_pure, rAo, A3 w hu, Instr.sureAddr, hii, and_self, if_true, hsz, Addr.add_at]
theorem A2s {P : Program} {w : World} {bs : List Nat} {H : Hz} {f : FuncId} {first cap args : List AVal} {cf : Value} {cargs : List Value} (hf : Rep F bs H w (.fn f first cap) cf) (ha : A5 F bs H w args cargs)
 (hb : ∃ fn c, P.funcs[f]? = some fn ∧ fn.body = some c ∧ fn.name ≠ "runtime.NumGoroutine") :
 ∃ us : List Value, (do let d ← Deferred.ofValue cf cargs.toArray; invoke d.target d.args : Sem Next).run P w = .ok (.enter f us.toArray) w ∧ A5 F bs H w (first ++ args ++ cap) us := by
 obtain ⟨fn, c, h1, h2, h3⟩ := hb
 simp only [Rep] at hf
 obtain ⟨fs, cs, rfl, hfs, hcs⟩ := hf
 refine ⟨fs ++ cargs ++ cs, ?_, (hfs.append ha).append hcs⟩
 simp [Deferred.ofValue, invoke, callFunc, h1, h2, h3]
theorem Ss (ρ : Operand → Value) (f : Operand) (args : Array Operand) (ts : Array TypeId) (T : TypeId) :
 resolve ρ { callee := .value f, args := args, argTypes := ts } T = Deferred.ofValue (ρ f) (args.map ρ) := rfl
def H9 (n : Nat) (agg : Bool) (off : Nat) : AVal → Option AVal
 | .agg cs => match agg with
   | true => some (.agg ((cs.drop off).take n))
   | false => match cs.drop off with
     | c :: _ => some c
     | [] => none
 | _ => none
def Pe : List AVal → List (Nat × Nat × AVal) → Option (List AVal)
 | cs, [] => some cs
 | cs, (off, n, x) :: r => cond (Nat.beq x.cells.length n && Nat.ble (off + n) cs.length) (Pe (spl cs off x.cells) r) none
theorem X8 (off : Nat) : ∀ (vs : List Value) (i : Nat) (cells : Array Value), off + i + vs.length ≤ cells.size →
 ((vs.zipIdx i).foldl (fun cs (c, j) => cs.setIfInBounds (off + j) c) cells).toList = cells.toList.take (off + i) ++ (vs ++ cells.toList.drop (off + i + vs.length))
 | [], i, cells, _ => by simp
 | v :: vs, i, cells, h => by
   simp only [List.zipIdx_cons, List.foldl_cons]
   rw [X8 off vs (i + 1) (cells.setIfInBounds (off + i) v) (by simp at h ⊢; omega)]
   have e := list_seg_step cells.toList (off + i) v vs (by simp at h ⊢; omega)
   simp only [Array.toList_setIfInBounds, Nat.add_assoc, List.append_assoc, lCo] at e ⊢
   exact e
theorem Vh {bs : List Nat} {H : Hz} {w : World} {place : Nat → Option (Nat × Nat)} : ∀ {ps : List (Nat × Value)} {qs : List (Nat × Nat × AVal)} {cs : List AVal} {cells : Array Value} {r : List AVal},
 A5 F bs H w cs cells.toList → (∀ (j : Nat) (p : Nat × Value), ps[j]? = some p → ∃ q : Nat × Nat × AVal, qs[j]? = some q ∧ place p.1 = some (q.1, q.2.1) ∧ Rep F bs H w q.2.2 p.2) → qs.length = ps.length → Pe cs qs = some r →
 ∃ cells', Instr.fill place cells ps = some cells' ∧ A5 F bs H w r cells'.toList
 | [], qs, cs, cells, r, hl, _, hn, h => by
   have : qs = [] := List.eq_nil_of_length_eq_zero (by simpa using hn)
   subst this
   simp only [Pe, iS] at h
   subst h
   exact ⟨cells, rfl, hl⟩
 | (i, v) :: ps, qs, cs, cells, r, hl, hp, hn, h => by
   cases qs with
   | nil => simp at hn
   | cons q qs =>
     obtain ⟨q', hq, hpl, hr⟩ := hp 0 (i, v) rfl
     simp at hq; subst hq
     obtain ⟨off, n, x⟩ := q
     simp only [Pe] at h
     cases hc : (Nat.beq x.cells.length n && Nat.ble (off + n) cs.length) with
     | false => rw [hc] at h; cases h
     | true =>
       rw [hc, cond_true] at h
       simp only [bAt] at hc
       have h1 := nBq hc.1
       have h2 := Nat.le_of_ble_eq_true hc.2
       have hxc := hr.cells
       have hxl := hxc.length
       have hll := hl.length
       simp only at hpl hxl hxc
       have hsz : v.cells.size = n := by rw [← h1, ← hxl]; simp
       have hfold := X8 off v.cells.toList 0 cells (by simp at hll hxl ⊢; omega)
       simp only [Nat.add_zero] at hfold
       have hl' : A5 F bs H w (spl cs off x.cells) ((v.cells.toList.zipIdx 0).foldl (fun cs (c, j) => cs.setIfInBounds (off + j) c) cells).toList := by
        rw [hfold, spl, ← hxl]
        exact (hl.take off).append (hxc.append (hl.drop _))
       obtain ⟨cells', hf, hr'⟩ := Vh (ps := ps) (qs := qs) hl' (fun j p hj => hp (j + 1) p (by simpa using hj)) (by simpa using hn) h
       refine ⟨cells', ?_, hr'⟩
       simp only [Instr.fill, hpl]
       have hll' : cells.size = cs.length := by simpa using hll
       rw [if_neg (by simp; omega)]
       rw [← hf, ← Array.foldl_toList, Array.toList_zipIdx]
def Dq (k : Nat) (H : Hz) : AVal → Option (List AVal × Nat)
 | .row k' es => cond (Nat.beq k k') (some (es.flatMap AVal.cells, es.length)) none
 | .nilSl => some ([], 0)
 | .emp => some ([], 0)
 | .hsl k' id off len _ => cond (Nat.beq k k') (match H[id]? with
  | some (.cells _ cs false) => some ((cs.drop off).take (len * k), len)
  | some (.cells _ cs true) => cond (Nat.beq (len * k) cs.length && Nat.beq off 0) (some (cs, len)) none
  | _ => none) none
 | _ => none
theorem A5.flat {bs : List Nat} {H : Hz} {w : World} : ∀ {es : List AVal} {vs : List Value}, A5 F bs H w es vs → A5 F bs H w (es.flatMap AVal.cells) (flat vs)
 | [], _, h => by simp only [A5] at h; subst h; simp [Abs.flat, A5]
 | e :: es, _, h => by
   simp only [A5] at h
   obtain ⟨u, us, rfl, h1, h2⟩ := h
   simp only [Abs.flat, List.flatMap_cons]
   exact h1.cells.append (A5.flat h2)
theorem Ub {W0 w : World} {bs : List Nat} {H : Hz} (hh : A7 W0 F bs H w) {k : Nat} {y : AVal} {cy : Value} {ys : List AVal} {m : Nat} (hy : Rep F bs H w y cy) (h : Dq k H y = some (ys, m)) :
 ∃ a c us, cy = .slice a m c ∧ A5 F bs H w ys us ∧ us.length = m * k ∧ (a = none → m = 0) ∧ ∀ a', a = some a' → ∀ j u, us[j]? = some u → w.cell? (a'.add j) = some u := by
 cases y <;> simp only [Dq] at h <;> try (cases h; done)
 case nilSl =>
  simp only [iS, iP] at h; obtain ⟨rfl, rfl⟩ := h
  simp only [Rep] at hy; subst hy
  exact ⟨none, 0, [], rfl, by simp [A5], by simp, fun _ => rfl, fun a' h => by cases h⟩
 case emp =>
  simp only [iS, iP] at h; obtain ⟨rfl, rfl⟩ := h
  simp only [Rep] at hy; obtain ⟨a, rfl⟩ := hy
  exact ⟨some a, 0, [], rfl, by simp [A5], by simp, (fun h => by cases h), fun a' _ j u hj => by simp at hj⟩
 case row k' es =>
  cases hk : Nat.beq k k' with
  | false => rw [hk] at h; cases h
  | true =>
    rw [hk] at h
    have := nBq hk; subst this
    simp only [cond_true, iS, iP] at h; obtain ⟨rfl, rfl⟩ := h
    simp only [Rep] at hy
    obtain ⟨a, cap, vs, rfl, hl, hk, hrow⟩ := hy
    refine ⟨a, cap, flat vs, rfl, hl.flat, by rw [Kq hk, hl.length], fun ha => ?_, fun a' ha j u hj => ?_⟩
    · subst ha; have := hl.length; rw [hrow.1] at this; simpa using this.symm
    · subst ha
      obtain ⟨h1, _, h3⟩ := hrow
      obtain ⟨ab, ao, asp⟩ := a'
      simp only at h1; subst h1
      rw [Addr.add_at]
      exact (h3 j u hj).2
 case hsl k' id off len cap =>
  cases hk : Nat.beq k k' with
  | false => rw [hk] at h; cases h
  | true =>
    rw [hk] at h
    have := nBq hk; subst this
    simp only [cond_true] at h
    simp only [Rep] at hy
    obtain ⟨_, hy⟩ := hy
    unfold Bn at hy
    split at h
    · rename_i T cs ho
      simp only [iS, iP] at h; obtain ⟨rfl, rfl⟩ := h
      rw [ho] at hy
      obtain ⟨hle, hy⟩ := hy
      obtain ⟨b, c, hb, rfl, _⟩ := hy (by simp)
      obtain ⟨vs, rest, fr, hcell, hl, _⟩ := hh.obj id _ b ho hb
      refine ⟨some ⟨b, off, none⟩, c, (vs.drop off).take (len * k), rfl, (hl.drop off).take _, ?_, (fun h => by cases h), fun a' ha j u hj => ?_⟩
      · have := hl.length; rw [List.length_take, List.length_drop]; omega
      · injection ha with ha; subst ha
        rw [Addr.add_at, cell_of_row w b _ _ T fr hcell]
        rw [List.getElem?_take] at hj
        split at hj
        · rw [List.getElem?_drop] at hj
          rw [List.getElem?_toArray, List.getElem?_append_left (List.getElem?_eq_some_iff.1 hj).1]; exact hj
        · cases hj
    · rename_i T cs ho
      cases hc : (Nat.beq (len * k) cs.length && Nat.beq off 0) with
      | false => rw [hc] at h; cases h
      | true =>
        rw [hc] at h
        simp only [bAt] at hc
        have h1 := nBq hc.1
        have h2 := nBq hc.2
        subst h2
        simp only [cond_true, iS, iP] at h; obtain ⟨rfl, rfl⟩ := h
        rw [ho] at hy
        obtain ⟨hle, hy⟩ := hy
        obtain ⟨b, c, hb, rfl, _⟩ := hy (fun _ => ⟨rfl, h1⟩)
        obtain ⟨vs, rest, fr, hcell, hl, _⟩ := hh.obj id _ b ho hb
        refine ⟨some ⟨b, 0, none⟩, c, vs, rfl, hl, by rw [hl.length, h1], (fun h => by cases h), fun a' ha j u hj => ?_⟩
        injection ha with ha; subst ha
        rw [Addr.add_at, cell_of_row w b _ _ _ fr hcell]
        have hjl := (List.getElem?_eq_some_iff.1 hj).1
        simp only [Nat.zero_add, List.getElem?_toArray]
        rw [List.getElem?_append_left hjl]; exact hj
    · cases h
theorem A7.drew {W0 w : World} {bs : List Nat} {H : Hz} (h : A7 W0 F bs H w) : A7 W0 F bs H w.drew ∧ Ext bs H w bs H w.drew := by
 have he : Ext bs H w bs H w.drew := ⟨Nat.le_refl _, fun _ _ _ => rfl, fun _ h => .inl h, fun i o ho => ⟨o, ho, by
  cases o with
  | dead => simp [B0]
  | iter s p => exact .inr ⟨s, p, rfl, rfl⟩
  | mp es => exact .inr ⟨es, rfl, rfl⟩
  | cells T cs op => cases op with
    | false => exact .inr ⟨T, cs, rfl, rfl, rfl⟩
    | true => exact .inr ⟨T, cs, rfl, .inr ⟨rfl, rfl, fun _ _ => rfl⟩⟩⟩⟩
 exact ⟨⟨h.len, h.base.drew, h.low, h.nodup, h.forb, fun i o b ho hb => (h.obj i o b ho hb).ext he rfl⟩, he⟩
theorem U7 {W0 w : World} {bs : List Nat} {H : Hz} (h : A7 W0 F bs H w) {id : Nat} {T : TypeId} (hT : Nat.blt T 1000000 = true) {cs cs' : List AVal} (ho : H[id]? = some (.cells T cs true)) (hlt : cs.length < cs'.length) (us rest : List Value)
 (hl : A5 F bs H w cs' us) :
 A7 W0 F (bs.set id w.heap.size) (H.set id (.cells T cs' true)) (w.alloc (.cells (us ++ rest).toArray T)) ∧
 Ext bs H w (bs.set id w.heap.size) (H.set id (.cells T cs' true)) (w.alloc (.cells (us ++ rest).toArray T)) := by
 have hid : id < H.length := (List.getElem?_eq_some_iff.1 ho).1
 have hidb : id < bs.length := by rw [h.len]; exact hid
 have he : Ext bs H w (bs.set id w.heap.size) (H.set id (.cells T cs' true)) (w.alloc (.cells (us ++ rest).toArray T)) := by
  refine ⟨by simp, fun k hk _ => Below.heap_alloc w _ k hk, fun k hk => ?_, fun j x hx => ?_⟩
  · rcases List.mem_or_eq_of_mem_set hk with h' | h'
    · exact .inl h'
    · exact .inr (by omega)
  · by_cases hij : j = id
    · subst hij
      rw [ho] at hx; injection hx with hx; subst hx
      exact ⟨_, by rw [List.getElem?_set_self hid], .inr ⟨T, cs', rfl, .inl hlt⟩⟩
    · refine ⟨x, by rw [List.getElem?_set_ne (Ne.symm hij)]; exact hx, ?_⟩
      have hb' : (bs.set id w.heap.size)[j]? = bs[j]? := List.getElem?_set_ne (Ne.symm hij)
      have hz : ∀ b, bs[j]? = some b → Bv (w.alloc (.cells (us ++ rest).toArray T)) b = Bv w b := fun b hb => by
       have : b < w.heap.size := (h.low b (mGe hb)).2
       unfold Bv; rw [Below.heap_alloc w _ b this]
      cases x with
      | dead => simp [B0]
      | iter s p => exact .inr ⟨s, p, rfl, hb'⟩
      | mp es => exact .inr ⟨es, rfl, hb'⟩
      | cells T cs op => cases op with
        | false => exact .inr ⟨T, cs, rfl, rfl, hb'⟩
        | true => exact .inr ⟨T, cs, rfl, .inr ⟨rfl, hb', hz⟩⟩
 refine ⟨⟨by simp [h.len], h.base.alloc h.base.size _, fun b hb => ?_, ?_, fun b hb => ?_, fun j x b hx hb => ?_⟩, he⟩
 · rcases List.mem_or_eq_of_mem_set hb with h' | h'
   · have := h.low b h'; simp; omega
   · subst h'; simp; exact h.base.size
 · rw [List.nodup_iff_pairwise_ne, List.pairwise_iff_getElem]
   intro i j hi hj hij
   simp only [List.length_set] at hi hj
   simp only [List.getElem_set]
   have hp := List.pairwise_iff_getElem.1 h.nodup i j hi hj hij
   have hlow := fun (i : Nat) (hi : i < bs.length) => (h.low (bs[i]) (List.getElem_mem hi)).2
   split <;> split
   · omega
   · have := hlow j hj; omega
   · have := hlow i hi; omega
   · exact hp
 · obtain ⟨h1, h2, h3⟩ := h.forb b hb
   refine ⟨h1, by simp; omega, fun hm => ?_⟩
   rcases List.mem_or_eq_of_mem_set hm with h' | h'
   · exact h3 h'
   · omega
 · by_cases hij : j = id
   · subst hij
     rw [List.getElem?_set_self hid] at hx; injection hx with hx; subst hx
     rw [List.getElem?_set_self hidb] at hb; injection hb with hb; subst hb
     exact ⟨us, rest, (0, 0), by rw [Hj hT]; exact heap_alloc_new w _, A5.ext he _ _ hl, fun _ => rfl⟩
   · rw [List.getElem?_set_ne (Ne.symm hij)] at hx hb
     exact (h.obj j x b hx hb).ext he (Below.heap_alloc w _ b (h.low b (mGe hb)).2)
def En (P : Program) (t : TypeId) : Option (TypeId × Nat × Nat) :=
 match P.underlying t with
 | some (.slice e) => match P.info? e with
   | some i => match i.zero with
     | some z => cond (Nat.beq z.cells.size i.size && Nat.ble 1 i.size && Nat.blt e 1000000) (some (e, i.size, i.bytes)) none
     | none => none
   | none => none
 | _ => none
theorem I8 {P : Program} {t e : TypeId} {k b : Nat} (h : En P t = some (e, k, b)) : P.underlying t = some (.slice e) ∧ 1 ≤ k ∧ ∃ i z, P.info? e = some i ∧ i.zero = some z ∧ i.size = k ∧ i.bytes = b ∧ z.cells.size = k := by
 unfold En at h
 split at h
 · rename_i e' hu
   split at h
   · rename_i i hi
     split at h
     · rename_i z hz
       cases hc : (Nat.beq z.cells.size i.size && Nat.ble 1 i.size && Nat.blt e' 1000000) with
       | false => rw [hc] at h; cases h
       | true =>
         rw [hc] at h
         simp only [cond_true, iS, iP] at h
         obtain ⟨rfl, rfl, rfl⟩ := h
         simp only [bAt] at hc
         exact ⟨hu, Nat.le_of_ble_eq_true hc.1.2, i, z, hi, hz, rfl, rfl, nBq hc.1.1⟩
     · cases h
   · cases h
 · cases h
theorem Rx {P : Program} {t e : TypeId} {k b : Nat} (h : En P t = some (e, k, b)) : Nat.blt e 1000000 = true := by
 unfold En at h
 split at h
 · rename_i e' hu
   split at h
   · rename_i i hi
     split at h
     · rename_i z hz
       cases hc : (Nat.beq z.cells.size i.size && Nat.ble 1 i.size && Nat.blt e' 1000000) with
       | false => rw [hc] at h; cases h
       | true =>
         rw [hc] at h
         simp only [cond_true, iS, iP] at h
         obtain ⟨rfl, rfl, rfl⟩ := h
         simp only [bAt] at hc
         exact hc.2
     · cases h
   · cases h
 · cases h
def C9 : Int := 140737488355328
def G9 (e k b : Nat) (H : Hz) (ys : List AVal) (m : Nat) : AVal → Option (AVal × Hz × List (Int × Int))
 | .nilSl => some (.hsl k H.length 0 m none, H ++ [.cells e ys true], [((m * b : Nat), C9), ((m : Nat), C9)])
 | .emp => some (.hsl k H.length 0 m none, H ++ [.cells e ys true], [((m * b : Nat), C9), ((m : Nat), C9)])
 | .hsl k' id off len cap => cond (Nat.beq k k') (match H[id]? with
   | some (.cells T cs true) => cond (Nat.beq T e && Nat.beq off 0 && Nat.beq (len * k) cs.length) (some (.hsl k id 0 (len + m) none, H.set id (.cells T (cs ++ ys) true), [(((len + m) * b : Nat), C9), ((len + m : Nat), C9)])) none
   | some (.cells _ cs false) => cond (match cap with | some c => Nat.beq c len | none => false) (some (.hsl k H.length 0 (len + m) none, H ++ [.cells e ((cs.drop off).take (len * k) ++ ys) true], [(((len + m) * b : Nat), C9), ((len + m : Nat), C9)])) none
   | _ => none) none
 | _ => none
def isSl : AVal → Bool
 | .nilSl | .emp | .row _ _ | .hsl _ _ _ _ _ => true
 | _ => false
def Qj (e k b : Nat) (H : Hz) (x y : AVal) : Option (AVal × Hz × List (Int × Int)) :=
 match Dq k H y with
 | none => none
 | some (ys, m) => cond (Nat.beq m 0) (cond (isSl x) (some (x, H, [])) none) (cond (ys.all AVal.one) (G9 e k b H ys m x) none)
theorem Q2 {P : Program} {w : World} {t ty e : TypeId} {k : Nat} (hu : P.underlying t = some (.slice e)) (hs : (sizeOf e).run P w = .ok k w) (base : Option Addr) (n c : Nat) (hnc : n ≤ c) (a : Option Addr) (cy : Nat) :
 (Builtin.append_ #[t, t] ty #[.slice base n c, .slice a 0 cy]).run P w = .ok (.slice base n c) w := by
 have hst : ∀ a' : Addr, (storeCells a' []).run P w = .ok () w := fun a' => rfl
 cases a with
 | none => cases base <;> simp [Builtin.append_, A3 w hu, hs, Builtin.lenOf, hnc, Builtin.firstCells, hst]
 | some a => cases base <;> simp [Builtin.append_, A3 w hu, hs, Builtin.lenOf, hnc, Builtin.firstCells, loadCells, loadCellsFrom, hst]
theorem Hi (z : Array Value) (n : Nat) : (Builtin.zeroCells z n).size = n * z.size := size_zeroCells z n
theorem S7 {W0 w : World} {bs : List Nat} {H : Hz} (hh : A7 W0 F bs H w) (T k n c : Nat) (hT : Nat.blt T 1000000 = true) {cs : List AVal} {us : List Value} (rest : List Value) (hl : A5 F bs H w cs us) (hn : us.length = n * k) (hc : c * k = us.length + rest.length) (hnc : n ≤ c) (hcm : c ≤ maxLen) :
 Rep F (bs ++ [w.heap.size]) (H ++ [.cells T cs true]) (w.alloc (.cells (us ++ rest).toArray T)) (.hsl k H.length 0 n none) (.slice (some ⟨w.heap.size, 0, none⟩) n c) ∧
 A7 W0 F (bs ++ [w.heap.size]) (H ++ [.cells T cs true]) (w.alloc (.cells (us ++ rest).toArray T)) ∧
 Ext bs H w (bs ++ [w.heap.size]) (H ++ [.cells T cs true]) (w.alloc (.cells (us ++ rest).toArray T)) := by
 have he := Ext.alloc hh.len (fun b hb => (hh.low b hb).2) (.cells (us ++ rest).toArray T) (.cells T cs true)
 refine ⟨?_, hh.alloc _ _ ⟨us, rest, (0, 0), by rw [Hj hT]; exact heap_alloc_new w _, A5.ext he _ _ hl, fun _ => rfl⟩, he⟩
 simp only [Rep, Bn, List.getElem?_concat_length]
 have hll := hl.length
 refine ⟨⟨_, c, hnc, rfl⟩, by omega, fun _ => ⟨w.heap.size, c, by rw [← hh.len]; simp, rfl, hnc, by simp, fun _ => ⟨hcm, ?_⟩⟩⟩
 unfold Bv
 rw [heap_alloc_new]
 simp only [List.size_toArray, lAp]
 exact hc
theorem Ff {m : Nat} (h : ((m : Nat) : Int) ≤ C9) : m ≤ 140737488355328 := by simp only [C9] at h; omega
theorem aapp_ok {P : Program} {W0 w : World} {bs : List Nat} {H H' : Hz} (hh : A7 W0 F bs H w) {t ty e : TypeId} {k b : Nat} (ht : En P t = some (e, k, b)) {x y v : AVal} {cx cy : Value} {side : List (Int × Int)}
 (hx : Rep F bs H w x cx) (hy : Rep F bs H w y cy) (h : Qj e k b H x y = some (v, H', side)) (hs : Af side) :
 ∃ cv w' bs', (Builtin.append_ #[t, t] ty #[cx, cy]).run P w = .ok cv w' ∧ Rep F bs' H' w' v cv ∧ A7 W0 F bs' H' w' ∧ Ext bs H w bs' H' w' := by
 obtain ⟨hu, hk1, i, z, hi, hz, hisz, hiby, hzsz⟩ := I8 ht
 have hTe := Rx ht
 subst hisz; subst hiby
 have hsz : (sizeOf e).run P w = .ok i.size w := by simp [sizeOf, B9 w hi]
 unfold Qj at h
 cases hyc : Dq i.size H y with
 | none => rw [hyc] at h; cases h
 | some p =>
   obtain ⟨ys, m⟩ := p
   rw [hyc] at h
   simp only at h
   obtain ⟨a, cc, us, rfl, hl, hlen, hnone, hmem⟩ := Ub hh hy hyc
   have hll := hl.length
   cases hm0 : Nat.beq m 0 with
   | true =>
     have := nBq hm0
     subst this
     rw [hm0, cond_true] at h
     cases hsl : isSl x with
     | false => rw [hsl] at h; cases h
     | true =>
       rw [hsl, cond_true] at h
       simp only [iS, iP] at h
       obtain ⟨rfl, rfl, rfl⟩ := h
       have hcx : ∃ base n c, n ≤ c ∧ cx = .slice base n c := by
        cases x <;> simp only [isSl, bFt] at hsl <;> simp only [Rep] at hx
        · exact ⟨none, 0, 0, Nat.le_refl _, hx⟩
        · obtain ⟨a, rfl⟩ := hx; exact ⟨_, _, _, Nat.le_refl _, rfl⟩
        · obtain ⟨a, cap, vs, rfl, h1, _, h3⟩ := hx
          refine ⟨a, _, cap, ?_, rfl⟩
          have := h1.length
          cases a with
          | none => rw [h3.1] at this; simp at this; omega
          | some a => have := h3.2.1; omega
        · obtain ⟨⟨a, c, hlc, rfl⟩, _⟩ := hx; exact ⟨_, _, _, hlc, rfl⟩
       obtain ⟨base, n, c, hnc, rfl⟩ := hcx
       exact ⟨_, w, bs, Q2 hu hsz base n c hnc a cc, hx, hh, Ext.refl _ _ _⟩
   | false =>
     have hmpos : 0 < m := by
      cases m with
      | zero => cases hm0
      | succ m => omega
     rw [hm0, cond_false] at h
     cases hall : ys.all AVal.one with
     | false => rw [hall] at h; cases h
     | true =>
       rw [hall, cond_true] at h
       have hone := hl.one hall
       cases a with
       | none => have := hnone rfl; omega
       | some ad =>
         have hcells := hmem ad rfl
         have hlt : H.length = bs.length := hh.len.symm
         have fromNil : ∀ base c0, cx = .slice base 0 c0 → c0 = 0 → G9 e i.size i.bytes H ys m .nilSl = some (v, H', side) →
          ∃ cv w' bs', (Builtin.append_ #[t, t] ty #[cx, .slice (some ad) m cc]).run P w = .ok cv w' ∧ Rep F bs' H' w' v cv ∧ A7 W0 F bs' H' w' ∧ Ext bs H w bs' H' w' := by
          rintro base c0 rfl rfl h
          simp only [G9, iS, iP] at h
          obtain ⟨rfl, rfl, rfl⟩ := h
          have hr1 := Ff hs.1
          have hr2 := Ff hs.2.1
          have hg := grownCap_ge w m 0 e
          have hgm := grownCap_le_maxLen w m 0 e (by simp only [maxLen]; omega)
          obtain ⟨hdr, hde⟩ := hh.drew
          obtain ⟨h1, h2, h3⟩ := S7 (W0 := W0) hdr e i.size m (grownCap w m 0 e) hTe (Builtin.zeroCells z.cells (grownCap w m 0 e - m)).toList (A5.ext hde _ _ hl) hlen (by
           have := Hi z.cells (grownCap w m 0 e - m)
           simp only [Array.length_toList, this, hzsz, hlen]
           rw [← Nat.add_mul]; congr 1; omega) hg hgm
          refine ⟨_, _, _, ?_, h1, h2, hde.trans h3⟩
          cases base with
          | none =>
            rw [run_append_nil w t ty e i z hu hi hz ad m cc us hlen hcells hmpos (by omega) (by omega)]
            congr 3
            apply Array.ext'; simp
          | some bb =>
            rw [run_append_grow w t ty e i z hu hi hz bb 0 0 [] (by simp) (fun j v h => by simp at h) ad m cc us hlen hcells (by omega) (by omega) (by rw [Nat.zero_add, nextslicecap_zero hmpos]; omega)]
            simp only [Nat.zero_add]
            congr 3
            apply Array.ext'; simp
         cases x <;> simp only [G9] at h <;> try (cases h; done)
         case nilSl => simp only [Rep] at hx; exact fromNil none 0 hx rfl (by simpa only [G9] using h)
         case emp => simp only [Rep] at hx; obtain ⟨a0, hx⟩ := hx; exact fromNil (some a0) 0 hx rfl (by simpa only [G9] using h)
         case hsl k' id off len cap =>
          cases hkk : Nat.beq i.size k' with
          | false => rw [hkk] at h; cases h
          | true =>
            rw [hkk, cond_true] at h
            have hk' := nBq hkk
            subst hk'
            simp only [Rep] at hx
            obtain ⟨_, hx⟩ := hx
            unfold Bn at hx
            split at h
            ·
             rename_i T cs ho
             cases hc : (Nat.beq T e && Nat.beq off 0 && Nat.beq (len * i.size) cs.length) with
             | false => rw [hc] at h; cases h
             | true =>
               rw [hc, cond_true] at h
               simp only [iS, iP] at h
               obtain ⟨rfl, rfl, rfl⟩ := h
               simp only [bAt] at hc
               have hTq := nBq hc.1.1
               have hoff := nBq hc.1.2
               have hln := nBq hc.2
               subst hTq; subst hoff
               have hr1 := Ff hs.1
               have hr2 := Ff hs.2.1
               rw [ho] at hx
               obtain ⟨_, hx⟩ := hx
               obtain ⟨bb, c, hb, rfl, hlc, _, hop⟩ := hx (fun _ => ⟨rfl, hln⟩)
               obtain ⟨hcm, hcb⟩ := hop rfl
               obtain ⟨vs, rest, fr, hcell, hvl, hfr⟩ := hh.obj id _ bb ho hb
               obtain rfl := hfr hTe
               rw [Hj hTe] at hcell
               have hvlen := hvl.length
               have hbsz : Bv w bb = (vs ++ rest).length := by unfold Bv; rw [hcell]; simp
               have hlt2 : cs.length < (cs ++ ys).length := by
                rw [lAp]
                have : 1 ≤ m * i.size := Nat.mul_le_mul hmpos hk1
                omega
               by_cases hroom : len + m ≤ c
               ·
                have hfit : len * i.size + us.length ≤ (vs ++ rest).length := by
                 rw [← hbsz, ← hcb, hlen, ← Nat.add_mul]; exact Nat.mul_le_mul_right _ hroom
                have hrun := run_append_room (P := P) w t ty T i hu hi bb len c (vs ++ rest).toArray hcell ad m cc us hlen hcells hone hroom (by simpa using hfit)
                have hrow : (vs ++ rest).toArray.toList.take (len * i.size) ++ us ++ (vs ++ rest).toArray.toList.drop (len * i.size + us.length) = (vs ++ us) ++ rest.drop us.length := by
                 rw [show len * i.size = vs.length by omega, List.take_left, List.drop_append]
                 rw [List.drop_of_length_le (by omega), show vs.length + us.length - vs.length = us.length by omega]
                 simp
                rw [hrow] at hrun
                have hlow := hh.low bb (mGe hb)
                have hoe : B0 bs bs w (w.setRow bb ((vs ++ us) ++ rest.drop us.length).toArray) id (.cells T cs true) (.cells T (cs ++ ys) true) := .inr ⟨T, _, rfl, .inl hlt2⟩
                have hext := Ext.upd (w' := w.setRow bb ((vs ++ us) ++ rest.drop us.length).toArray) hh.nodup ho hb (by simp) (fun k hk => setRow_other w bb k _ hk) hoe
                refine ⟨_, _, bs, hrun, ?_, A7.upd hh ho hb (Ek w _ hlow.1) (by simp) (fun k hk => setRow_other w bb k _ hk) hoe ⟨vs ++ us, rest.drop us.length, (0, 0), by rw [Hj hTe]; exact setRow_heap w bb _ _ T (0, 0) hcell, A5.ext hext _ _ (hvl.append hl), fun _ => rfl⟩, hext⟩
                simp only [Rep, Bn]
                have hid := (List.getElem?_eq_some_iff.1 ho).1
                rw [List.getElem?_set_self hid]
                refine ⟨⟨_, c, hroom, rfl⟩, ?_, fun _ => ⟨bb, c, hb, rfl, hroom, by simp, fun _ => ⟨hcm, ?_⟩⟩⟩
                · simp only [lAp]; rw [Nat.add_mul]; omega
                · unfold Bv; rw [setRow_heap w bb _ _ T (0, 0) hcell]
                  rw [hcb, hbsz]; simp only [List.size_toArray, lAp, List.length_drop]
                  simp only [lAp] at hfit; omega
               ·
                have hg := grownCap_ge w (len + m) c T
                have hgm := grownCap_le_maxLen w (len + m) c T (by simp only [maxLen]; omega)
                have hrun := run_append_grow (P := P) w t ty T i z hu hi hz ⟨bb, 0, none⟩ len c vs (by omega) (fun j v hj => by
                 rw [Addr.add_at, cell_of_row w bb _ _ T (0, 0) hcell]
                 have hjl := (List.getElem?_eq_some_iff.1 hj).1
                 simp only [Nat.zero_add, List.getElem?_toArray]
                 rw [List.getElem?_append_left hjl]; exact hj) ad m cc us hlen hcells (by omega) (by omega) (growslice_fits (by omega) (by omega))
                obtain ⟨hdr, hde⟩ := hh.drew
                have hmv := U7 (W0 := W0) hdr hTe ho hlt2 (vs ++ us) (Builtin.zeroCells z.cells (grownCap w (len + m) c T - (len + m))).toList (A5.ext hde _ _ (hvl.append hl))
                have harr : (vs.toArray ++ us.toArray ++ Builtin.zeroCells z.cells (grownCap w (len + m) c T - (len + m))) = ((vs ++ us) ++ (Builtin.zeroCells z.cells (grownCap w (len + m) c T - (len + m))).toList).toArray := by
                 apply Array.ext'; simp
                rw [harr] at hrun
                refine ⟨_, _, _, hrun, ?_, hmv.1, hde.trans hmv.2⟩
                simp only [Rep, Bn]
                have hid := (List.getElem?_eq_some_iff.1 ho).1
                rw [List.getElem?_set_self hid]
                refine ⟨⟨_, _, hg, rfl⟩, ?_, fun _ => ⟨w.heap.size, _, ?_, rfl, hg, by simp, fun _ => ⟨hgm, ?_⟩⟩⟩
                · simp only [lAp]; rw [Nat.add_mul]; omega
                · exact List.getElem?_set_self (by rw [hh.len]; exact hid)
                · unfold Bv
                  have : (w.drew.alloc (.cells ((vs ++ us) ++ (Builtin.zeroCells z.cells (grownCap w (len + m) c T - (len + m))).toList).toArray T)).heap[w.heap.size]? = some (.cells ((vs ++ us) ++ (Builtin.zeroCells z.cells (grownCap w (len + m) c T - (len + m))).toList).toArray T) := heap_alloc_new w.drew _
                  rw [this]
                  simp only [List.size_toArray, lAp, Array.length_toList, Hi, hzsz]
                  rw [hvlen, ← hln, hlen, ← Nat.add_mul, ← Nat.add_mul]; congr 1; omega
            ·
             rename_i T cs ho
             cases cap with
             | none => cases h
             | some c' =>
               simp only at h
               cases hcl : Nat.beq c' len with
               | false => rw [hcl] at h; cases h
               | true =>
                 rw [hcl, cond_true] at h
                 have := nBq hcl
                 subst this
                 simp only [iS, iP] at h
                 obtain ⟨rfl, rfl, rfl⟩ := h
                 have hr1 := Ff hs.1
                 have hr2 := Ff hs.2.1
                 rw [ho] at hx
                 obtain ⟨hle, hx⟩ := hx
                 obtain ⟨bb, c, hb, rfl, hlc, hceq, _⟩ := hx (by simp)
                 have := hceq c' rfl
                 subst this
                 obtain ⟨vs, rest, fr, hcell, hvl, _⟩ := hh.obj id _ bb ho hb
                 have hvlen := hvl.length
                 have hg := grownCap_ge w (c + m) c e
                 have hgm := grownCap_le_maxLen w (c + m) c e (by simp only [maxLen]; omega)
                 have hol : ((vs.drop off).take (c * i.size)).length = c * i.size := by rw [List.length_take, List.length_drop]; omega
                 have hrun := run_append_grow (P := P) w t ty e i z hu hi hz ⟨bb, off, none⟩ c c ((vs.drop off).take (c * i.size)) hol (fun j v hj => by
                  rw [Addr.add_at, cell_of_row w bb _ _ T fr hcell]
                  rw [List.getElem?_take] at hj
                  split at hj
                  · rw [List.getElem?_drop] at hj
                    rw [List.getElem?_toArray, List.getElem?_append_left (List.getElem?_eq_some_iff.1 hj).1]; exact hj
                  · cases hj) ad m cc us hlen hcells (by omega) (by omega) (growslice_fits (by omega) (by omega))
                 obtain ⟨hdr, hde⟩ := hh.drew
                 have hnew : A5 F bs H w ((cs.drop off).take (c * i.size) ++ ys) ((vs.drop off).take (c * i.size) ++ us) := ((hvl.drop off).take _).append hl
                 obtain ⟨h1, h2, h3⟩ := S7 (W0 := W0) hdr e i.size (c + m) (grownCap w (c + m) c e) hTe (Builtin.zeroCells z.cells (grownCap w (c + m) c e - (c + m))).toList (A5.ext hde _ _ hnew) (by rw [lAp, hol, hlen, Nat.add_mul]) (by
                  simp only [Array.length_toList, Hi, hzsz, lAp, hol, hlen]
                  rw [← Nat.add_mul, ← Nat.add_mul]; congr 1; omega) hg hgm
                 refine ⟨_, _, _, ?_, h1, h2, hde.trans h3⟩
                 rw [hrun]
                 congr 3
                 apply Array.ext'; simp
            · cases h
def N9 (P : Program) (t : TypeId) (i : Nat) : Option (Nat × Nat) :=
 match P.underlying t with
 | some (.array _ e) => match P.info? e with
   | some ie => some (i * ie.size, ie.size)
   | none => none
 | some (.struct fields) => match fields.toList.mapM (fun f => (P.info? f.type).map fun i => (f.offset, i.size)) with
   | some places => places[i]?
   | none => none
 | _ => none
theorem A0m {P : Program} {w : World} {bs : List Nat} {H : Hz} {t : TypeId} {zs : List AVal} (hz : Dn P t = some zs) {ps : Array (Nat × Value)} {qs : List (Nat × Nat × AVal)} {r : List AVal}
 (hp : ∀ (j : Nat) (p : Nat × Value), ps.toList[j]? = some p → ∃ q : Nat × Nat × AVal, qs[j]? = some q ∧ N9 P t p.1 = some (q.1, q.2.1) ∧ Rep F bs H w q.2.2 p.2) (hn : qs.length = ps.toList.length)
 (hkind : (∃ fs, P.underlying t = some (.struct fs) ∧ (fs.toList.mapM (fun f => (P.info? f.type).map fun i => (f.offset, i.size))).isSome = true) ∨ (∃ n e, P.underlying t = some (.array n e) ∧ (P.info? e).isSome = true))
 (h : Pe zs qs = some r) : ∃ cv, (Instr.build t ps).run P w = .ok cv w ∧ Rep F bs H w (.agg r) cv := by
 unfold Dn at hz
 split at hz
 · rename_i it hit
   split at hz
   · rename_i z hzz
     have hl : A5 F bs H w zs z.cells.toList := Ie (fun v _ a ha => Rep.const 3 v a ha) hz
     have fin : ∀ place : Nat → Option (Nat × Nat), (∀ i, place i = N9 P t i) → (∀ cells, Instr.fill place z.cells ps.toList = some cells → P.built t ps.toList = some cells) →
      ∃ cv, (Instr.build t ps).run P w = .ok cv w ∧ Rep F bs H w (.agg r) cv := by
      intro place hpl hb
      obtain ⟨cells, hf, hr⟩ := Vh (place := place) (cells := z.cells) hl (fun j p hj => by
       obtain ⟨q, h1, h2, h3⟩ := hp j p hj
       exact ⟨q, h1, by rw [hpl]; exact h2, h3⟩) hn h
      refine ⟨.agg cells, run_build w t ps cells (hb cells hf), ?_⟩
      simp only [Rep]
      exact ⟨cells.toList, by simp, hr⟩
     rcases hkind with ⟨fs, hu, hm⟩ | ⟨n, e, hu, hm⟩
     · obtain ⟨places, hpl⟩ := Option.isSome_iff_exists.1 hm
       refine fin (fun i => places.toArray[i]?) (fun i => ?_) (fun cells hf => ?_)
       · simp only [N9, hu, hpl]; simp
       · simp only [Program.built, hit, hu, hzz, hpl]; exact hf
     · obtain ⟨ie, hie⟩ := Option.isSome_iff_exists.1 hm
       refine fin (fun i => some (i * ie.size, ie.size)) (fun i => ?_) (fun cells hf => ?_)
       · simp only [N9, hu, hie]
       · simp only [Program.built, hit, hu, hzz, hie]; exact hf
   · cases hz
 · cases hz
def Ia (zs : List AVal) (n : Nat) : List AVal := (List.range n).map fun j => zs.getD (j % zs.length) .nilIf
theorem A5.of_get {bs : List Nat} {H : Hz} {w : World} : ∀ {az : List AVal} {vs : List Value}, vs.length = az.length → (∀ (j : Nat) (a : AVal) (v : Value), az[j]? = some a → vs[j]? = some v → Rep F bs H w a v) → A5 F bs H w az vs
 | [], vs, hl, _ => by simp only [A5]; exact List.eq_nil_of_length_eq_zero hl
 | a :: az, [], hl, _ => by simp at hl
 | a :: az, v :: vs, hl, h => by
   simp only [A5]
   exact ⟨v, vs, rfl, h 0 a v rfl rfl, A5.of_get (by simpa using hl) (fun j a v h1 h2 => h (j + 1) a v h1 h2)⟩
theorem Uw {bs : List Nat} {H : Hz} {w : World} {zs : List AVal} {z : Array Value} (hl : A5 F bs H w zs z.toList) (hz : 0 < z.size) (n : Nat) : A5 F bs H w (Ia zs n) ((Array.range n).map (z[· % z.size]!)).toList := by
 have hlen := hl.length
 have hlen' : z.size = zs.length := by simpa using hlen
 refine A5.of_get (by simp [Ia]) (fun j a v ha hv => ?_)
 simp only [Ia, List.getElem?_map] at ha
 simp only [Array.toList_map, Array.toList_range, List.getElem?_map] at hv
 by_cases hj : j < n
 · rw [List.getElem?_range hj] at ha hv
   simp only [Option.map_some, iS] at ha hv
   subst ha; subst hv
   have hm : j % z.size < z.size := Nat.mod_lt _ hz
   have hm' : j % zs.length < zs.length := by rw [← hlen']; exact hm
   rw [getElem!_pos z _ hm]
   have hget : zs[j % zs.length]? = some (zs.getD (j % zs.length) .nilIf) := by simp [List.getD, hm']
   obtain ⟨u, hu, hr⟩ := hl.get hget
   have : z[j % z.size] = u := by
    have h1 : z.toList[j % zs.length]? = some z[j % z.size] := by rw [← hlen']; simp [hm]
    rw [h1] at hu; injection hu
   rw [this]; exact hr
 · rw [List.getElem?_eq_none (by simpa using Nat.le_of_not_lt hj)] at ha
   cases ha
theorem Ua (off : Nat) : ∀ (l : List (Value × Nat)) (c : Array Value), (l.foldl (fun cs x => cs.setIfInBounds (off + x.2) x.1) c).size = c.size
 | [], c => rfl
 | x :: l, c => by rw [List.foldl_cons, Ua off l]; simp
theorem Ug (place : Nat → Option (Nat × Nat)) : ∀ (ps : List (Nat × Value)) (c c' : Array Value), Instr.fill place c ps = some c' → c'.size = c.size
 | [], c, c', h => by simp [Instr.fill] at h; rw [h]
 | (j, v) :: ps, c, c', h => by
   simp only [Instr.fill] at h
   split at h
   · cases h
   · split at h
     · cases h
     · rw [Ug place ps _ _ h, ← Array.foldl_toList]
       exact Ua _ _ _
theorem Z0 {P : Program} {W0 w : World} {bs : List Nat} {H : Hz} (hh : A7 W0 F bs H w) {t e : TypeId} {k by' : Nat} (ht : En P t = some (e, k, by')) {zs : List AVal} (hz : Dn P e = some zs) {len : Nat} (hlen : len * k ≤ 16777216) {ps : Array (Nat × Value)} {qs : List (Nat × Nat × AVal)} {r : List AVal}
 (hp : ∀ (j : Nat) (p : Nat × Value), ps.toList[j]? = some p → ∃ q : Nat × Nat × AVal, qs[j]? = some q ∧ (p.1 * k, k) = (q.1, q.2.1) ∧ Rep F bs H w q.2.2 p.2) (hn : qs.length = ps.toList.length)
 (h : Pe (Ia zs (len * k)) qs = some r) :
 ∃ cv w' bs', (Instr.buildSlice t len ps).run P w = .ok cv w' ∧ Rep F bs' (H ++ [.cells e r false]) w' (.hsl k H.length 0 len (some len)) cv ∧ A7 W0 F bs' (H ++ [.cells e r false]) w' ∧ Ext bs H w bs' (H ++ [.cells e r false]) w' := by
 obtain ⟨hu, hk1, i, z, hi, hzz, hisz, hiby, hzsz⟩ := I8 ht
 subst hisz
 have hsz : (sizeOf e).run P w = .ok i.size w := by simp [sizeOf, B9 w hi]
 have hl : A5 F bs H w zs z.cells.toList := by
  unfold Dn at hz
  rw [hi] at hz; simp only [hzz] at hz
  exact Ie (fun v _ a ha => Rep.const 3 v a ha) hz
 have hzr : (zeroValue e).run P w = .ok z w := by simp [zeroValue, B9 w hi, hzz]
 have start : ∃ z0 : Array Value, ((if len * i.size = 0 then pure #[] else do pure (← zeroValue e).cells : Sem (Array Value)).run P w = .ok z0 w) ∧ A5 F bs H w (Ia zs (len * i.size)) ((Array.range (len * i.size)).map (z0[· % z0.size]!)).toList := by
  by_cases h0 : len * i.size = 0
  · refine ⟨#[], by simp [h0], ?_⟩
    rw [h0]; simp [Ia, A5]
  · exact ⟨z.cells, by simp [h0, hzr], Uw hl (by omega) _⟩
 obtain ⟨z0, hz0, hrow⟩ := start
 obtain ⟨cells', hf, hr⟩ := Vh (place := fun j => some (j * i.size, i.size)) (cells := (Array.range (len * i.size)).map (z0[· % z0.size]!)) hrow (fun j p hj => by
  obtain ⟨q, h1, h2, h3⟩ := hp j p hj
  exact ⟨q, h1, by rw [iP] at h2; rw [h2.1, ← h2.2], h3⟩) hn h
 obtain ⟨h1, h2, h3⟩ := L7 hh e hr
 rw [Array.toArray_toList] at h1 h2 h3
 have hrl : cells'.size = len * i.size := by
  rw [Ug _ _ _ _ hf]; simp
 refine ⟨.slice (some ⟨w.heap.size, 0, none⟩) len len, w.alloc (.cells cells' e), _, ?_, ?_, h2, h3⟩
 · simp only [Instr.buildSlice, sRb, A3 w hu, rAo, hsz]
   rw [if_neg (by omega)]
   by_cases h0 : len * i.size = 0
   · rw [if_pos h0] at hz0 ⊢
     simp only [Sem.run_pure, Result.ok.injEq, and_true] at hz0
     subst hz0
     simp only [sRb, Sem.run_pure, rAo, hf, newRow, run_newObj]
     rfl
   · rw [if_neg h0] at hz0 ⊢
     simp only [sRb, Sem.run_pure, rAo, hzr, Result.ok.injEq, and_true] at hz0
     subst hz0
     simp only [sRb, Sem.run_pure, rAo, hzr, hf, newRow, run_newObj]
     rfl
 · simp only [Rep, Bn, List.getElem?_concat_length]
   have := hr.length
   refine ⟨⟨_, len, Nat.le_refl _, rfl⟩, by simp at this; omega, fun _ => ⟨w.heap.size, len, by rw [← hh.len]; simp, rfl, Nat.le_refl _, fun c' h => by injection h, by simp⟩⟩
theorem A17 {P : Program} {W0 w : World} {bs : List Nat} {H : Hz} (hh : A7 W0 F bs H w) {t : TypeId} (hu : P.underlying t = some .string) {s : Bz} :
 ∃ cv w' bs', (Instr.range t (.string ⟨s.toArray⟩)).run P w = .ok cv w' ∧ Rep F bs' (H ++ [.iter s 0]) w' (.ptr H.length 0) cv ∧ A7 W0 F bs' (H ++ [.iter s 0]) w' ∧ Ext bs H w bs' (H ++ [.iter s 0]) w' := by
 have he := Ext.alloc hh.len (fun b hb => (hh.low b hb).2) (.stringIter ⟨s.toArray⟩ 0) (.iter s 0)
 refine ⟨.pointer (some ⟨w.heap.size, 0, none⟩), w.alloc (.stringIter ⟨s.toArray⟩ 0), _, by simp [Instr.range, A3 w hu], ?_, hh.alloc _ _ (heap_alloc_new w _), he⟩
 simp only [Rep, Dx, List.getElem?_concat_length]
 exact ⟨⟨_, rfl⟩, w.heap.size, by rw [← hh.len]; simp, rfl⟩
def Jz (s : Bz) (pos : Nat) : Nat × Nat := Utf8.decode ⟨s.toArray⟩ pos
def Wl (H : Hz) : AVal → Option (AVal × Hz)
 | .ptr id off => cond (Nat.beq off 0) (match H[id]? with
   | some (.iter s pos) => some (cond (Nat.blt pos s.length)
    (.tup [.bool true, .int .i64 (pos : Nat), .int .i32 ((Jz s pos).1 : Nat)], H.set id (.iter s (pos + (Jz s pos).2)))
    (.tup [.bool false], H))
   | _ => none) none
 | _ => none
theorem O9 {B : Nat} (w : World) {b : Nat} (o : Obj) (h : B ≤ b) : Below B w { w with heap := w.heap.setIfInBounds b o } :=
 ⟨rfl, rfl, rfl, by simp, fun k hk => by simp [Array.getElem?_setIfInBounds]; intro e; omega⟩
theorem A1o {P : Program} {W0 w : World} {bs : List Nat} {H H' : Hz} (hh : A7 W0 F bs H w) {T : TypeId} {p v : AVal} {cp : Value} (hp : Rep F bs H w p cp) (h : Wl H p = some (v, H')) :
 ∃ cv w', (Instr.next cp true T).run P w = .ok cv w' ∧ Rep F bs H' w' v cv ∧ A7 W0 F bs H' w' ∧ Ext bs H w bs H' w' := by
 cases p <;> simp only [Wl] at h <;> try (cases h; done)
 case ptr id off =>
  cases h0 : Nat.beq off 0 with
  | false => rw [h0] at h; cases h
  | true =>
    have := nBq h0; subst this
    rw [h0, cond_true] at h
    simp only [Rep] at hp
    obtain ⟨_, hp⟩ := hp
    unfold Dx at hp
    split at h
    · rename_i s pos ho
      rw [ho] at hp
      obtain ⟨b, hb, rfl⟩ := hp
      have hobj := hh.obj id _ b ho hb
      simp only [Gm] at hobj
      have hlow := hh.low b (mGe hb)
      have hsz : (ByteArray.mk s.toArray).size = s.length := by simp [ByteArray.size]
      have hget : (getObj b).run P w = .ok (.stringIter ⟨s.toArray⟩ pos) w := by simp [getObj, Sem.run, hobj]
      simp only [iS] at h
      cases hlt : Nat.blt pos s.length with
      | false =>
        rw [hlt, cond_false] at h
        simp only [iP] at h
        obtain ⟨rfl, rfl⟩ := h
        have hn : ¬ pos < s.length := fun hc => by
         have : Nat.blt pos s.length = true := by unfold Nat.blt; exact Nat.ble_eq_true_of_le hc
         rw [this] at hlt; cases hlt
        refine ⟨.tuple #[.bool false], w, ?_, ?_, hh, Ext.refl _ _ _⟩
        · simp only [Instr.next, sRb, hget, rAo, hsz, hn, if_false]
          rfl
        · simp only [Rep, A5]
          exact ⟨[.bool false], rfl, _, _, rfl, rfl, rfl⟩
      | true =>
        rw [hlt, cond_true] at h
        simp only [iP] at h
        obtain ⟨rfl, rfl⟩ := h
        have hn : pos < s.length := by unfold Nat.blt at hlt; exact Nat.le_of_ble_eq_true hlt
        have hset : (setObj b (.stringIter ⟨s.toArray⟩ (pos + (Jz s pos).2))).run P w = .ok () { w with heap := w.heap.setIfInBounds b (.stringIter ⟨s.toArray⟩ (pos + (Jz s pos).2)) } := by
         simp [setObj, Sem.run, hobj]
        have hoe : B0 bs bs w { w with heap := w.heap.setIfInBounds b (.stringIter ⟨s.toArray⟩ (pos + (Jz s pos).2)) } id (.iter s pos) (.iter s (pos + (Jz s pos).2)) := .inr ⟨s, _, rfl, rfl⟩
        have hother : ∀ k, k ≠ b → (w.heap.setIfInBounds b (Obj.stringIter ⟨s.toArray⟩ (pos + (Jz s pos).2)))[k]? = w.heap[k]? := fun k hk => by
         simp [Ne.symm hk]
        have hext := Ext.upd (w' := { w with heap := w.heap.setIfInBounds b (.stringIter ⟨s.toArray⟩ (pos + (Jz s pos).2)) }) hh.nodup ho hb (by simp) hother hoe
        refine ⟨.tuple #[.bool true, .int .i64 (pos : Nat), .int .i32 ((Jz s pos).1 : Nat)], _, ?_, ?_, A7.upd hh ho hb (O9 w _ hlow.1) (by simp) hother hoe ?_, hext⟩
        · simp only [Instr.next, sRb, hget, rAo, hsz, hn, if_true]
          have : Utf8.decode (ByteArray.mk s.toArray) pos = ((Jz s pos).1, (Jz s pos).2) := rfl
          rw [this]
          simp only [hset, rAo]
          rfl
        · simp only [Rep, A5]
          exact ⟨[_, _, _], rfl, _, _, rfl, rfl, _, _, rfl, rfl, _, _, rfl, rfl, rfl⟩
        · simp only [Gm]
          simp [hlow.2]
    · cases h
def G1 : List AVal → Option Bz
 | [] => some []
 | .int .u8 n :: r => match G1 r with
   | some l => some (UInt8.ofNat n.toNat :: l)
   | none => none
 | _ :: _ => none
theorem Nn {bs : List Nat} {H : Hz} {w : World} : ∀ {az : List AVal} {vs : List Value} {l : Bz}, A5 F bs H w az vs → G1 az = some l → ∃ ns : List Int, vs = ns.map (Value.int .u8) ∧ l = ns.map fun n => UInt8.ofNat n.toNat
 | [], _, _, h, hb => by
   simp only [A5] at h; subst h
   simp [G1] at hb; subst hb
   exact ⟨[], rfl, rfl⟩
 | a :: az, _, l, h, hb => by
   simp only [A5] at h
   obtain ⟨u, us, rfl, h1, h2⟩ := h
   cases a
   case int k n =>
    cases k
    case u8 =>
     simp only [G1] at hb
     cases hr : G1 az with
     | none => rw [hr] at hb; cases hb
     | some l' =>
      rw [hr] at hb; injection hb with hb; subst hb
      obtain ⟨ns, rfl, rfl⟩ := Nn h2 hr
      simp only [Rep] at h1; subst h1
      exact ⟨n :: ns, rfl, rfl⟩
    all_goals (simp [G1] at hb)
   all_goals (simp [G1] at hb)
def ab2s (H : Hz) (y : AVal) : Option AVal :=
 match Dq 1 H y with
 | some (ys, _) => match G1 ys with
   | some l => some (.str l)
   | none => none
 | none => none
theorem ab2s_ok {P : Program} {W0 w : World} {bs : List Nat} {H : Hz} (hh : A7 W0 F bs H w) {src dst e : TypeId} (hs : P.underlying src = some (.slice e)) (hd : P.underlying dst = some .string) (he : P.underlying e = some (.int .u8)) {y v : AVal} {cy : Value} (hy : Rep F bs H w y cy) (h : ab2s H y = some v) :
 ∃ cv, (convert src dst cy).run P w = .ok cv w ∧ Rep F bs H w v cv := by
 unfold ab2s at h
 split at h
 · rename_i ys m hyc
   split at h
   · rename_i l hl
     injection h with h; subst h
     obtain ⟨a, c, us, rfl, hrl, hlen, hnone, hmem⟩ := Ub hh hy hyc
     obtain ⟨ns, rfl, rfl⟩ := Nn hrl hl
     have hconv : ∀ r, (Conv.bytesToString (.slice a m c)).run P w = .ok r w → (convert src dst (.slice a m c)).run P w = .ok r w := by
      intro r hr
      simp only [convert, sRb, A3 w hs, A3 w hd, rAo, A3 w he]
      exact hr
     cases a with
     | none =>
       have := hnone rfl; subst this
       have : ns = [] := List.eq_nil_of_length_eq_zero (by simpa using hlen)
       subst this
       exact ⟨.string .empty, hconv _ (by simp [Conv.bytesToString]), by simp only [Rep]; rfl⟩
     | some ad =>
       have hm := hmem ad rfl
       have hll : (ns.map (Value.int .u8)).length = m := by simpa using hlen
       have hld := run_loadCells_list (P := P) w ad (ns.map (Value.int .u8)) hm
       rw [hll] at hld
       have := run_bytesToString (P := P) w ad m c ns hld
       rw [foldl_push_bytes] at this
       refine ⟨_, hconv _ this, ?_⟩
       simp only [Rep]
       have h0 : ByteArray.empty.data = #[] := rfl
       rw [h0, Array.empty_append]
   · cases h
 · cases h
theorem Yv (w : World) (c : Array Value) (e : TypeId) (n : Nat) : (w.alloc (.cells c e)).freeze ⟨w.heap.size, n, none⟩ 1 = w.alloc (.cells c e (n, n + 1)) := by
 unfold World.freeze World.alloc
 simp only [Nat.one_ne_zero, if_false]
 congr 1
 apply Array.ext_getElem?
 intro i
 rw [Array.getElem?_modify, Array.getElem?_push, Array.getElem?_push]
 by_cases hi : i = w.heap.size
 · subst hi; simp
 · rw [if_neg hi, if_neg hi, if_neg (Ne.symm hi)]
theorem as2b_ok {P : Program} {W0 w : World} {bs : List Nat} {H : Hz} (hh : A7 W0 F bs H w) {src dst e : TypeId} (hs : P.underlying src = some .string) (hd : P.underlying dst = some (.slice e)) (he : P.underlying e = some (.int .u8)) (s : Bz) :
 ∃ cv w' bs', (convert src dst (.string ⟨s.toArray⟩)).run P w = .ok cv w' ∧ Rep F bs' (H ++ [.cells e (s.map fun b => .int .u8 (b.toNat : Nat)) false]) w' (.hsl 1 H.length 0 s.length none) cv ∧
  A7 W0 F bs' (H ++ [.cells e (s.map fun b => .int .u8 (b.toNat : Nat)) false]) w' ∧ Ext bs H w bs' (H ++ [.cells e (s.map fun b => .int .u8 (b.toNat : Nat)) false]) w' := by
 obtain ⟨hdr, hde⟩ := hh.drew
 have hsz : (ByteArray.mk s.toArray).size = s.length := by simp [ByteArray.size]
 generalize hcap : (Question.appendCap s.length 0 e).cut (w.tape w.drawn (.appendCap s.length 0 e)) = cap
 have hle : s.length ≤ cap := by rw [← hcap]; simp [Question.cut]
 let vs : List Value := s.map fun b => .int .u8 b.toNat
 let rest : List Value := List.replicate (cap - s.length) (.int .u8 0)
 have harr : ((ByteArray.mk s.toArray).data.map (fun b => Value.int .u8 b.toNat) ++ Array.replicate (cap - s.length) (.int .u8 0)) = (vs ++ rest).toArray := by
  apply Array.ext'; simp [vs, rest]
 have hl : ∀ {bs : List Nat} {H : Hz} {w : World}, A5 F bs H w (s.map fun b => AVal.int .u8 (b.toNat : Nat)) vs := by
  intro bs H w
  refine A5.of_get (by simp [vs]) (fun j a v ha hv => ?_)
  simp only [vs, List.getElem?_map] at ha hv
  cases hj : s[j]? with
  | none => rw [hj] at ha; cases ha
  | some b => rw [hj] at ha hv; simp at ha hv; subst ha; subst hv; simp [Rep]
 have hext := Ext.alloc hdr.len (fun b hb => (hdr.low b hb).2) (.cells (vs ++ rest).toArray e ((vs ++ rest).length, (vs ++ rest).length + 1)) (.cells e (s.map fun b => AVal.int .u8 (b.toNat : Nat)) false)
 refine ⟨.slice (some ⟨w.heap.size, 0, none⟩) s.length cap, w.drew.alloc (.cells (vs ++ rest).toArray e ((vs ++ rest).length, (vs ++ rest).length + 1)), bs ++ [w.heap.size], ?_, ?_, ?_, hde.trans hext⟩
 · have hfr := Yv w.drew (vs ++ rest).toArray e (vs ++ rest).length
   have hshape : (w.drew.alloc (.cells (vs ++ rest).toArray e)).shape? w.heap.size = some (e, (vs ++ rest).length) := by
    unfold World.shape?
    have : (w.drew.alloc (.cells (vs ++ rest).toArray e)).heap[w.heap.size]? = some (.cells (vs ++ rest).toArray e) := heap_alloc_new w.drew _
    rw [this]; simp
   simp only [convert, sRb, A3 w hs, A3 w hd, rAo, A3 w he, Conv.stringToBytes, run_choose, Question.forced, bFt, if_false, hsz, hcap, newRow, run_newObj, harr]
   simp only [markStringish, sRb, run_shape]
   have h1 : ({ { w with drawn := w.drawn + 1 } with heap := w.heap.push (Obj.cells (vs ++ rest).toArray e) } : World) = w.drew.alloc (.cells (vs ++ rest).toArray e) := rfl
   simp only [Sem.run_pure, rAo]
   rw [h1, hshape]
   simp only [run_freeze]
   show Result.ok (Value.slice _ s.length cap) ((w.drew.alloc (.cells (vs ++ rest).toArray e)).freeze ⟨w.drew.heap.size, (vs ++ rest).length, none⟩ 1) = _
   rw [hfr]
 · simp only [Rep, Bn, List.getElem?_concat_length]
   exact ⟨⟨_, cap, hle, rfl⟩, by simp, fun _ => ⟨w.heap.size, cap, by rw [← hh.len]; simp, rfl, hle, by simp, by simp⟩⟩
 · exact hdr.alloc _ _ ⟨vs, rest, _, heap_alloc_new w.drew _, hl, fun j hj hc => by
    simp only [lAp] at hc; omega⟩
end Go.Abs
