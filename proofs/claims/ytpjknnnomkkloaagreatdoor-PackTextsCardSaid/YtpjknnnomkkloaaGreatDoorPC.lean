/- A part of the proof that tabula/tabulalaw25.PackTexts returns true for every input, each argument reading as it did (its card: the last text). No conditions of its own. -/
import Derived.Test.YtpjknnnomkkloaaGreatDoorPB
import Derived.Orders
namespace Go.Abs
open Go.RowKit
variable {F : Nat → Prop}
def G2 (k : Nat) : Nat → List Value → List AVal → List Value
 | 0, _, _ => []
 | m + 1, vs, cs => (cond (Nat.beq k 1 && (cs.headD .nilIf).one) (vs.headD undef) (.agg (vs.take k).toArray)) :: G2 k m (vs.drop k) (cs.drop k)
section
variable {bs : List Nat} {H : Hz} {w : World}
theorem Qu {k : Nat} (hk : 1 ≤ k) : ∀ {m : Nat} {cs : List AVal} {vs : List Value}, A5 F bs H w cs vs → m * k ≤ cs.length →
 A5 F bs H w (E0 k m cs) (G2 k m vs cs) ∧ (∀ u ∈ G2 k m vs cs, u.cells.size = k) ∧ flat (G2 k m vs cs) = vs.take (m * k) ∧ (G2 k m vs cs).length = m ∧ (E0 k m cs).length = m
 | 0, cs, vs, h, hl => by simp [E0, G2, A5, flat]
 | m + 1, cs, vs, h, hl => by
   have hlen := h.length
   have hmk : (m + 1) * k = k + m * k := by rw [Nat.add_mul, Nat.one_mul, Nat.add_comm]
   have hkl : k ≤ cs.length := by omega
   obtain ⟨h1, h2, h3, h4, h5⟩ := Qu (m := m) hk (h.drop k) (by simp; omega)
   have htl : (vs.take k).length = k := by simp; omega
   have key : ∃ x : AVal, ∃ u : Value, (E0 k (m + 1) cs = x :: E0 k m (cs.drop k)) ∧ (G2 k (m + 1) vs cs = u :: G2 k m (vs.drop k) (cs.drop k)) ∧ Rep F bs H w x u ∧ u.cells.size = k ∧ u.cells.toList = vs.take k := by
    have hagg : Rep F bs H w (.agg (cs.take k)) (.agg (vs.take k).toArray) ∧ (Value.agg (vs.take k).toArray).cells.size = k ∧ (Value.agg (vs.take k).toArray).cells.toList = vs.take k := by
     refine ⟨by simp only [Rep]; exact ⟨_, rfl, h.take k⟩, ?_, ?_⟩
     · simp only [Value.cells]; simpa using htl
     · simp only [Value.cells]
    cases hk1 : Nat.beq k 1 with
    | false => exact ⟨_, _, by simp only [E0, hk1, cond_false], by simp only [G2, hk1, Bool.false_and, cond_false], hagg⟩
    | true =>
      have := nBq hk1; subst this
      cases cs with
      | nil => simp at hkl
      | cons c cs =>
        simp only [A5] at h
        obtain ⟨u, us, rfl, hu, hus⟩ := h
        cases h1 : c.one with
        | false => exact ⟨_, _, by simp only [E0, hk1, cond_true, List.headD_cons, h1, cond_false], by simp only [G2, hk1, Bool.true_and, List.headD_cons, h1, cond_false], hagg⟩
        | true =>
          have ho := hu.one h1
          have hc : u.cells.toList = [u] := by cases u <;> simp_all [Value.cells, Value.oneCell']
          exact ⟨c, u, by simp only [E0, hk1, cond_true, List.headD_cons, h1, cond_true], by simp only [G2, hk1, Bool.true_and, List.headD_cons, h1, cond_true], hu, by rw [← Array.length_toList, hc]; rfl, by rw [hc]; simp⟩
   obtain ⟨x, u, e1, e2, hx, hsz, hcl⟩ := key
   rw [e1, e2]
   refine ⟨by simp only [A5]; exact ⟨_, _, rfl, hx, h1⟩, fun v hv => ?_, ?_, by simp [h4], by simp [h5]⟩
   · rcases List.mem_cons.1 hv with rfl | hv
     · exact hsz
     · exact h2 v hv
   · simp only [flat, List.flatMap_cons] at h3 ⊢
     rw [h3, hcl, hmk, List.take_add]
theorem Bn.take {n : Nat} {k id off len : Nat} {cap : Option Nat} {v : Value} (hid : id < n) (h : Bn bs H w k id off len cap v) : Bn (bs.take n) (H.take n) w k id off len cap v := by
 unfold Bn at h ⊢
 rw [List.getElem?_take_of_lt hid, List.getElem?_take_of_lt hid]
 exact h
theorem Fb.take {bs : List Nat} {H : Hz} {id n : Nat} {v : Value} (hid : id < n) (hr : Fb bs H id v) : Fb (bs.take n) (H.take n) id v := by
 unfold Fb at hr ⊢
 rw [List.getElem?_take_of_lt hid, List.getElem?_take_of_lt hid]
 exact hr
theorem Dx.take {n : Nat} {id off : Nat} {v : Value} (hid : id < n) (h : Dx bs H id off v) : Dx (bs.take n) (H.take n) id off v := by
 unfold Dx at h ⊢
 rw [List.getElem?_take_of_lt hid, List.getElem?_take_of_lt hid]
 exact h
theorem Dy.take {n : Nat} {id off len : Nat} {v : Value} (hid : id < n) (h : Dy bs H id off len v) : Dy (bs.take n) (H.take n) id off len v := by
 unfold Dy at h ⊢
 rw [List.getElem?_take_of_lt hid, List.getElem?_take_of_lt hid]
 exact h
theorem G4.takeB {n : Nat} {a : Option Addr} {vs : List Value} {cap : Nat} (h : G4 F bs w a vs cap) : G4 F (bs.take n) w a vs cap := by
 cases a with
 | none => exact h
 | some a =>
   obtain ⟨h1, h2, h3⟩ := h
   exact ⟨h1, h2, fun j u hj => ⟨⟨fun hm => (h3 j u hj).1.1 (List.mem_of_mem_take hm), (h3 j u hj).1.2⟩, (h3 j u hj).2⟩⟩
mutual
theorem Yk {n : Nat} : ∀ (a : AVal) (v : Value), Rep F bs H w a v → blw n a = true → Rep F (bs.take n) (H.take n) w a v
 | .bool _, _, hr, _ | .int _ _, _, hr, _ | .str _, _, hr, _ | .nilSl, _, hr, _ | .emp, _, hr, _ | .nilPtr, _, hr, _ | .nilFn, _, hr, _ | .nilMp, _, hr, _ | .nilIf, _, hr, _ => by simpa only [Rep] using hr
 | .agg cs, _, hr, hb => by
   simp only [Rep] at hr ⊢
   obtain ⟨vs, hv, hl⟩ := hr
   exact ⟨vs, hv, Ik cs vs hl (by simpa only [blw] using hb)⟩
 | .tup cs, _, hr, hb => by
   simp only [Rep] at hr ⊢
   obtain ⟨vs, hv, hl⟩ := hr
   exact ⟨vs, hv, Ik cs vs hl (by simpa only [blw] using hb)⟩
 | .row k es, _, hr, hb => by
   simp only [Rep] at hr ⊢
   obtain ⟨a, cap, vs, hv, hl, hk, hrow⟩ := hr
   exact ⟨a, cap, vs, hv, Ik es vs hl (by simpa only [blw] using hb), hk, hrow.takeB⟩
 | .hsl k id off len cap, _, hr, hb => by
   simp only [Rep] at hr ⊢
   simp only [blw, Nat.blt_eq] at hb
   exact ⟨hr.1, hr.2.take hb⟩
 | .ptr id off, _, hr, hb => by
   simp only [Rep] at hr ⊢
   simp only [blw, Nat.blt_eq] at hb
   exact ⟨hr.1, hr.2.take hb⟩
 | .mref id, _, hr, hb => by
   simp only [Rep] at hr ⊢
   simp only [blw, Nat.blt_eq] at hb
   exact ⟨hr.1, hr.2.take hb⟩
 | .optr id off len, _, hr, hb => by
   simp only [Rep] at hr ⊢
   simp only [blw, Nat.blt_eq] at hb
   exact ⟨hr.1, hr.2.take hb⟩
 | .eptr e off, _, hr, hb => by
   simp only [Rep] at hr ⊢
   obtain ⟨b, base, u, hv, he, ⟨h1, h2⟩, h3⟩ := hr
   exact ⟨b, base, u, hv, Yk e u he (by simpa only [blw] using hb), ⟨fun hm => h1 (List.mem_of_mem_take hm), h2⟩, h3⟩
 | .fn f first cap, _, hr, hb => by
   simp only [Rep] at hr ⊢
   obtain ⟨fs, cs, hv, h1, h2⟩ := hr
   simp only [blw] at hb
   cases hf : A8 n first with
   | false => rw [hf] at hb; cases hb
   | true => rw [hf] at hb; exact ⟨fs, cs, hv, Ik first fs h1 hf, Ik cap cs h2 hb⟩
 | .iface t x, _, hr, hb => by
   simp only [Rep] at hr ⊢
   obtain ⟨u, hv, hx⟩ := hr
   exact ⟨u, hv, Yk x u hx (by simpa only [blw] using hb)⟩
theorem Ik {n : Nat} : ∀ (az : List AVal) (vs : List Value), A5 F bs H w az vs → A8 n az = true → A5 F (bs.take n) (H.take n) w az vs
 | [], _, hr, _ => by simpa only [A5] using hr
 | a :: az, _, hr, hb => by
   simp only [A5] at hr ⊢
   obtain ⟨u, us, hv, h1, h2⟩ := hr
   simp only [A8] at hb
   cases ha : blw n a with
   | false => rw [ha] at hb; cases hb
   | true => rw [ha] at hb; exact ⟨u, us, hv, Yk a u h1 ha, Ik az us h2 hb⟩
end
theorem Wy {b : Nat} {T : TypeId} {vs rest : List Value} {fr : Nat × Nat} (h : w.heap[b]? = some (.cells (vs ++ rest).toArray T fr)) {j : Nat} {u : Value} (hu : vs[j]? = some u) : w.cell? ⟨b, j, none⟩ = some u := by
 rw [cell_of_row w b j _ T fr h, List.getElem?_toArray, List.getElem?_append_left (List.getElem?_eq_some_iff.1 hu).1]; exact hu
mutual
theorem Ol {W0 : World} (hh : A7 W0 F bs H w) {n : Nat} : ∀ (m : Nat) (a : AVal) (v : Value) (a' : AVal), Rep F bs H w a v → frz H n m a = some a' → Rep F (bs.take n) (H.take n) w a' v
 | 0, _, _, _, _, h => by cases h
 | m + 1, a, v, a', hr, h => by
   cases a with
   | agg cs =>
     simp only [frz] at h
     cases hc : H6 H n m cs with
     | none => rw [hc] at h; cases h
     | some cs' =>
       rw [hc] at h; injection h with h; subst h
       simp only [Rep] at hr ⊢
       obtain ⟨vs, hv, hl⟩ := hr
       exact ⟨vs, hv, (Jk hh m cs vs cs' hl hc).1⟩
   | tup cs =>
     simp only [frz] at h
     cases hc : H6 H n m cs with
     | none => rw [hc] at h; cases h
     | some cs' =>
       rw [hc] at h; injection h with h; subst h
       simp only [Rep] at hr ⊢
       obtain ⟨vs, hv, hl⟩ := hr
       exact ⟨vs, hv, (Jk hh m cs vs cs' hl hc).1⟩
   | row k es =>
     simp only [frz] at h
     cases hc : H6 H n m es with
     | none => rw [hc] at h; cases h
     | some es' =>
       rw [hc] at h; injection h with h; subst h
       simp only [Rep] at hr ⊢
       obtain ⟨x, cap, vs, hv, hl, hk, hrow⟩ := hr
       obtain ⟨h1, h2⟩ := Jk hh m es vs es' hl hc
       exact ⟨x, cap, vs, by rw [h2]; exact hv, h1, hk, hrow.takeB⟩
   | hsl k id off len cap =>
     simp only [frz] at h
     cases hid : Nat.blt id n with
     | true =>
       rw [hid, cond_true] at h; injection h with h; subst h
       simp only [Nat.blt_eq] at hid
       simp only [Rep] at hr ⊢
       exact ⟨hr.1, hr.2.take hid⟩
     | false =>
       rw [hid, cond_false] at h
       cases hk : Nat.ble 1 k with
       | false => rw [hk] at h; cases h
       | true =>
         rw [hk, cond_true] at h
         have hk' := Nat.le_of_ble_eq_true hk
         have hid' : n ≤ id := by
          rcases Nat.lt_or_ge id n with h' | h'
          · have : Nat.blt id n = true := by simpa [Nat.blt_eq] using h'
            rw [this] at hid; cases hid
          · exact h'
         simp only [Rep] at hr
         obtain ⟨_, hr⟩ := hr
         unfold Bn at hr
         have fin : ∀ (T : TypeId) (cs : List AVal) (op : Bool) (b c : Nat), H[id]? = some (.cells T cs op) → bs[id]? = some b → v = .slice (some ⟨b, off, none⟩) len c → len ≤ c → off + len * k ≤ cs.length →
          ∀ es, H6 H n m (E0 k len (cs.drop off)) = some es → Rep F (bs.take n) (H.take n) w (.row k es) v := by
          intro T cs op b c ho hb hv hlc hle es hes
          have hob : ∃ (vs rest : List Value) (T' : TypeId) (fr : Nat × Nat), w.heap[b]? = some (.cells (vs ++ rest).toArray T' fr) ∧ A5 F bs H w cs vs := by
           have := hh.obj id _ b ho hb
           cases op with
           | false => obtain ⟨vs, rest, fr, h1, h2, _⟩ := this; exact ⟨vs, rest, _, fr, h1, h2⟩
           | true => obtain ⟨vs, rest, fr, h1, h2, _⟩ := this; exact ⟨vs, rest, _, fr, h1, h2⟩
          obtain ⟨vs, rest, T', fr, h1, h2⟩ := hob
          obtain ⟨c1, c2, c3, c4, c5⟩ := Qu (m := len) hk' (h2.drop off) (by simp; omega)
          obtain ⟨e1, e2⟩ := Jk hh m _ _ es c1 hes
          simp only [Rep]
          refine ⟨some ⟨b, off, none⟩, c, _, by rw [e2, c5]; exact hv, e1, c2, rfl, by rw [c4]; exact hlc, fun j u hj => ⟨⟨fun hm => ?_, fun hF => ?_⟩, ?_⟩⟩
          · obtain ⟨i, hi, he⟩ := List.mem_iff_getElem.1 hm
            have : bs[i]? = some b := by
             rw [List.getElem_take] at he
             rw [gSi]
             exact ⟨by simp at hi; omega, he⟩
            have hi' : i < n := by simp at hi; omega
            have := Cm hh.nodup this hb
            omega
          · exact (hh.forb b hF).2.2 (mGe hb)
          · rw [c3, List.getElem?_take] at hj
            split at hj
            · rw [List.getElem?_drop] at hj
              exact Wy h1 hj
            · cases hj
         split at h
         · rename_i T cs ho
           rw [ho] at hr
           obtain ⟨hle, hr⟩ := hr
           obtain ⟨b, c, hb, hv, hlc, _, _⟩ := hr (by simp)
           split at h
           · rename_i es hes
             injection h with h; subst h
             exact fin T cs false b c ho hb hv hlc hle es hes
           · cases h
         · rename_i T cs ho
           rw [ho] at hr
           obtain ⟨hle, hr⟩ := hr
           cases hcnd : (Nat.beq off 0 && Nat.beq (len * k) cs.length) with
           | false => rw [hcnd] at h; cases h
           | true =>
             rw [hcnd, cond_true] at h
             simp only [bAt] at hcnd
             have hcnd : off = 0 ∧ len * k = cs.length := ⟨nBq hcnd.1, nBq hcnd.2⟩
             obtain ⟨b, c, hb, hv, hlc, _, _⟩ := hr (fun _ => hcnd)
             split at h
             · rename_i es hes
               injection h with h; subst h
               exact fin T cs true b c ho hb hv hlc hle es (by rw [hcnd.1, List.drop_zero]; exact hes)
             · cases h
         · cases h
   | ptr id off =>
     simp only [frz] at h
     cases hid : Nat.blt id n with
     | false => rw [hid] at h; cases h
     | true =>
       rw [hid, cond_true] at h; injection h with h; subst h
       simp only [Nat.blt_eq] at hid
       simp only [Rep] at hr ⊢
       exact ⟨hr.1, hr.2.take hid⟩
   | mref id =>
     simp only [frz] at h
     cases hid : Nat.blt id n with
     | false => rw [hid] at h; cases h
     | true =>
       rw [hid, cond_true] at h; injection h with h; subst h
       simp only [Nat.blt_eq] at hid
       simp only [Rep] at hr ⊢
       exact ⟨hr.1, hr.2.take hid⟩
   | optr id off len =>
     simp only [frz] at h
     cases hid : Nat.blt id n with
     | false => rw [hid] at h; cases h
     | true =>
       rw [hid, cond_true] at h; injection h with h; subst h
       simp only [Nat.blt_eq] at hid
       simp only [Rep] at hr ⊢
       exact ⟨hr.1, hr.2.take hid⟩
   | eptr e off =>
     simp only [frz] at h
     cases hc : frz H n m e with
     | none => rw [hc] at h; cases h
     | some e' =>
       rw [hc] at h; injection h with h; subst h
       simp only [Rep] at hr ⊢
       obtain ⟨b, base, u, hv, he, ⟨h1, h2⟩, h3⟩ := hr
       exact ⟨b, base, u, hv, Ol hh m e u e' he hc, ⟨fun hm => h1 (List.mem_of_mem_take hm), h2⟩, h3⟩
   | fn f first cap =>
     simp only [frz] at h
     cases hc : H6 H n m first with
     | none => rw [hc] at h; cases h
     | some a1 =>
       rw [hc] at h
       simp only at h
       cases hc2 : H6 H n m cap with
       | none => rw [hc2] at h; cases h
       | some c1 =>
         rw [hc2] at h; injection h with h; subst h
         simp only [Rep] at hr ⊢
         obtain ⟨fs, cs, hv, h1, h2⟩ := hr
         exact ⟨fs, cs, hv, (Jk hh m first fs a1 h1 hc).1, (Jk hh m cap cs c1 h2 hc2).1⟩
   | iface t x =>
     simp only [frz] at h
     cases hc : frz H n m x with
     | none => rw [hc] at h; cases h
     | some x' =>
       rw [hc] at h; injection h with h; subst h
       simp only [Rep] at hr ⊢
       obtain ⟨u, hv, hx⟩ := hr
       exact ⟨u, hv, Ol hh m x u x' hx hc⟩
   | _ => simp only [frz] at h; injection h with h; subst h; simpa only [Rep] using hr
theorem Jk {W0 : World} (hh : A7 W0 F bs H w) {n : Nat} : ∀ (m : Nat) (az : List AVal) (vs : List Value) (az' : List AVal), A5 F bs H w az vs → H6 H n m az = some az' → A5 F (bs.take n) (H.take n) w az' vs ∧ az'.length = az.length
 | 0, _, _, _, _, h => by simp only [H6] at h; cases h
 | m + 1, [], vs, az', hr, h => by
   simp only [H6] at h; injection h with h; subst h
   exact ⟨by simpa only [A5] using hr, rfl⟩
 | m + 1, a :: az, vs, az', hr, h => by
   simp only [H6] at h
   cases hc : frz H n m a with
   | none => rw [hc] at h; cases h
   | some a1 =>
     rw [hc] at h
     simp only at h
     cases hc2 : H6 H n m az with
     | none => rw [hc2] at h; cases h
     | some as1 =>
       rw [hc2] at h; injection h with h; subst h
       simp only [A5] at hr
       obtain ⟨u, us, rfl, h1, h2⟩ := hr
       obtain ⟨h3, h4⟩ := Jk hh m az us as1 h2 hc2
       refine ⟨?_, by simp [h4]⟩
       simp only [A5]
       exact ⟨u, us, rfl, Ol hh m a u a1 h1 hc, h3⟩
end
theorem Kz {n : Nat} : ∀ {l : Hz} {i : Nat} {T : TypeId} {cs : List AVal} {op : Bool}, B2 n l = true → l[i]? = some (.cells T cs op) → A8 n cs = true
 | [], i, _, _, _, _, h => by simp at h
 | o :: r, 0, T, cs, op, hb, h => by
   simp at h; subst h
   simp only [B2] at hb
   cases hc : A8 n cs with
   | true => rfl
   | false => rw [hc] at hb; cases hb
 | o :: r, i + 1, T, cs, op, hb, h => by
   have hr : B2 n r = true := by
    cases o with
    | cells T' cs' op' =>
      simp only [B2] at hb
      cases hc : A8 n cs' with
      | true => rw [hc] at hb; exact hb
      | false => rw [hc] at hb; cases hb
    | iter s p => exact hb
    | mp es => exact hb
    | dead => exact hb
   exact Kz hr (by simpa using h)
theorem A7.take {W0 : World} (hh : A7 W0 F bs H w) {n : Nat} (hb : B2 n (H.take n) = true) : A7 W0 F (bs.take n) (H.take n) w := by
 refine ⟨by simp [hh.len], hh.base, fun b hm => hh.low b (List.mem_of_mem_take hm), hh.nodup.sublist (List.take_sublist n bs), fun b hF => ?_, fun i o b hi hbi => ?_⟩
 · obtain ⟨h1, h2, h3⟩ := hh.forb b hF
   exact ⟨h1, h2, fun hm => h3 (List.mem_of_mem_take hm)⟩
 · have hin : i < n := by
    have := (List.getElem?_eq_some_iff.1 hi).1
    simp at this; omega
   have hi' := hi
   rw [List.getElem?_take_of_lt hin] at hi hbi
   have := hh.obj i o b hi hbi
   cases o with
   | dead => trivial
   | iter s p => exact this
   | mp es => exact this
   | cells T cs op =>
     have hcs := Kz hb hi'
     cases op with
     | false => obtain ⟨vs, rest, fr, h1, h2, h3⟩ := this; exact ⟨vs, rest, fr, h1, Ik cs vs h2 hcs, h3⟩
     | true => obtain ⟨vs, rest, fr, h1, h2, h3⟩ := this; exact ⟨vs, rest, fr, h1, Ik cs vs h2 hcs, h3⟩
theorem Ext.take {bs0 : List Nat} {H0 : Hz} {w0 : World} (h : Ext bs0 H0 w0 bs H w) : Ext bs0 H0 w0 (bs.take H0.length) (H.take H0.length) w := by
 refine ⟨h.size, h.block, fun k hk => h.new k (List.mem_of_mem_take hk), fun i o ho => ?_⟩
 have hi := (List.getElem?_eq_some_iff.1 ho).1
 obtain ⟨o', h1, h2⟩ := h.obj i o ho
 refine ⟨o', by rw [List.getElem?_take_of_lt hi]; exact h1, ?_⟩
 have hbs : (bs.take H0.length)[i]? = bs[i]? := List.getElem?_take_of_lt hi
 cases o with
 | dead => exact h2
 | iter s p => simpa only [B0, hbs] using h2
 | mp es => simpa only [B0, hbs] using h2
 | cells T cs op => cases op <;> simpa only [B0, hbs] using h2
theorem Ns {W0 : World} (hh : A7 W0 F bs H w) {bs0 : List Nat} {H0 : Hz} {w0 : World} (he : Ext bs0 H0 w0 bs H w) {v : AVal} {cv : Value} (hv : Rep F bs H w v cv) :
 ∃ bs', Rep F bs' (J4 H0.length v H).2 w (J4 H0.length v H).1 cv ∧ A7 W0 F bs' (J4 H0.length v H).2 w ∧ Ext bs0 H0 w0 bs' (J4 H0.length v H).2 w := by
 unfold J4
 cases h1 : Nat.ble H.length H0.length with
 | true => exact ⟨bs, hv, hh, he⟩
 | false =>
   rw [cond_false]
   cases h2 : B2 H0.length (H.take H0.length) with
   | false => exact ⟨bs, hv, hh, he⟩
   | true =>
     rw [cond_true]
     split
     · rename_i v' hf
       exact ⟨bs.take H0.length, Ol hh _ v cv v' hv hf, hh.take h2, he.take⟩
     · exact ⟨bs, hv, hh, he⟩
end
theorem D9 : ∀ (az : List AVal) (i : Nat) (e : Env) (t : Nat), i + az.length ≤ 4094 → (Ed i az e).get t = if i ≤ t ∧ t < i + az.length then az[t - i]? else e.get t
 | [], i, e, t, h => by simp only [Ed, lNi, Nat.add_zero]; rw [if_neg (by omega)]
 | v :: r, i, e, t, h => by
   simp only [lCo] at h
   simp only [Ed]
   rw [D9 r (i + 1) _ t (by omega), Env.get_put 12 i v e t (by show i + 2 ≤ 4096; omega)]
   by_cases h1 : t = i
   · subst h1
     rw [if_neg (by omega), if_pos rfl, if_pos (by simp)]
     simp
   · by_cases h2 : i + 1 ≤ t ∧ t < i + 1 + r.length
     · rw [if_pos h2, if_pos (by simp; omega)]
       rw [show t - i = (t - (i + 1)) + 1 by omega, List.getElem?_cons_succ]
     · rw [if_neg h2, if_neg h1, if_neg (by simp; omega)]
theorem A2h (t : Nat) : Env.leaf.get t = none := rfl
theorem Ez {W0 : World} {F : Nat → Prop} {bs : List Nat} {H : Hz} {w : World} (hh : A7 W0 F bs H w) {args : List AVal} {cargs : List Value} (hr : A5 F bs H w args cargs) (hl : args.length ≤ 4094) (k : Nat) :
 RS W0 F bs ⟨Ed 0 args .leaf, H, args.length + (k - args.length)⟩ { tmps := cargs.toArray ++ Array.replicate (k - cargs.toArray.size) undef, defers := [] } w := by
 have hlen := hr.length
 refine ⟨hh, by simp [hlen], fun t v hv => ?_⟩
 rw [D9 args 0 .leaf t (by omega)] at hv
 split at hv
 · rename_i ht
   simp only [Nat.sub_zero] at hv
   obtain ⟨u, hu, hrep⟩ := hr.get hv
   have : (cargs.toArray ++ Array.replicate (k - cargs.toArray.size) undef).getD t undef = u := by
    rw [Array.getD_eq_getD_getElem?, Array.getElem?_append_left (by simp; omega)]
    simp [hu]
   rw [this]; exact hrep
 · rw [A2h] at hv; cases hv
def A1p (tmps : Array Value) : ResultVar → Sem Value
 | .tmp t => pure (tmps.getD t undef)
 | .cell c t => do loadVar t (← asAddr (tmps.getD c undef))
theorem Yn {P : Program} {W0 : World} {F : Nat → Prop} {bs : List Nat} {s : St} {a : Act} {w : World} (hs : RS W0 F bs s a w) {r : ResultVar} {v : AVal} (h : Oc P s r = some v) :
 ∃ cv, Rep F bs s.H w v cv ∧ (A1p a.tmps r).run P w = .ok cv w := by
 cases r with
 | tmp t => exact ⟨_, hs.env t v h, rfl⟩
 | cell c t =>
   simp only [Oc] at h
   split at h
   · rename_i p hp
     split at h
     · rename_i n agg ht
       have hpr := hs.env c p hp
       obtain ⟨cv, h1, h2⟩ := Xd (P := P) hs.heap ht hpr h
       refine ⟨cv, h2, ?_⟩
       have hsa : ∃ ad, a.tmps.getD c undef = .pointer (some ad) := by
        cases p <;> simp only [Hy] at h <;> try (cases h; done)
        · simp only [Rep] at hpr
          obtain ⟨_, hpr⟩ := hpr
          unfold Dx at hpr
          split at h
          · rename_i ho
            rw [ho] at hpr
            obtain ⟨b, _, hb⟩ := hpr
            exact ⟨_, hb⟩
          · cases h
        · simp only [Rep] at hpr
          obtain ⟨⟨ad, had⟩, hpr⟩ := hpr
          unfold Dy at hpr
          split at h
          · rename_i ho
            rw [ho] at hpr
            cases hln : Nat.beq _ _ with
            | false => rw [hln] at h; cases h
            | true =>
              obtain ⟨b, _, hb⟩ := hpr.2 (nBq hln)
              exact ⟨_, hb⟩
          · cases h
        · simp only [Rep] at hpr
          obtain ⟨b, base, u, hb, _⟩ := hpr
          exact ⟨_, hb⟩
       obtain ⟨ad, had⟩ := hsa
       rw [had] at h1
       simpa [A1p, had, Instr.loadAt, Instr.sureAddr, asAddr] using h1
     · cases h
   · cases h
theorem Pn {P : Program} {W0 : World} {F : Nat → Prop} {bs : List Nat} {s : St} {a : Act} {w : World} (hs : RS W0 F bs s a w) : ∀ {rs : List ResultVar} {vs : List AVal}, D3 P s rs = some vs →
 ∃ cvs : List Value, A5 F bs s.H w vs cvs ∧ (rs.mapM (A1p a.tmps)).run P w = .ok cvs w
 | [], vs, h => by
   simp only [D3, iS] at h; subst h
   exact ⟨[], by simp [A5], by simp⟩
 | r :: rs, vs, h => by
   simp only [D3] at h
   split at h
   · rename_i v hv
     split at h
     · rename_i vs' hvs
       injection h with h; subst h
       obtain ⟨cv, h1, h2⟩ := Yn hs hv
       obtain ⟨cvs, h3, h4⟩ := Pn hs hvs
       refine ⟨cv :: cvs, by simp only [A5]; exact ⟨_, _, rfl, h1, h3⟩, ?_⟩
       simp only [List.mapM_cons, sRb, h2, rAo, h4, Sem.run_pure]
     · cases h
   · cases h
theorem Eh {P : Program} {W0 : World} {F : Nat → Prop} {bs : List Nat} {s : St} {a : Act} {w : World} (hs : RS W0 F bs s a w) {fn : Func} {vs : List AVal} (h : D3 P s fn.results.toList = some vs) :
 ∃ cv, (results fn a.tmps).run P w = .ok cv w ∧ Rep F bs s.H w (Hw vs) cv := by
 obtain ⟨cvs, h1, h2⟩ := Pn hs h
 refine ⟨if h : cvs.toArray.size = 1 then cvs.toArray[0] else .tuple cvs.toArray, ?_, ?_⟩
 · unfold results
   simp only [sRb, Array.mapM_eq_mapM_toList, Sem.run_map]
   have key : ∀ f : ResultVar → Sem Value, (∀ r, f r = A1p a.tmps r) → (((fn.results.toList.mapM f).run P w).andThen fun a w' => Result.ok a.toArray w').andThen (fun a w' => Sem.run P (pure (if h : a.size = 1 then a[0] else Value.tuple a)) w') = Result.ok (if h : cvs.toArray.size = 1 then cvs.toArray[0] else .tuple cvs.toArray) w := by
    intro f hf
    have : f = A1p a.tmps := funext hf
    subst this
    rw [h2]
    rfl
   exact key _ (fun r => by cases r <;> rfl)
 · cases vs with
   | nil =>
     simp only [A5] at h1; subst h1
     simp only [Hw, Rep]
     exact ⟨[], by simp, by simp [A5]⟩
   | cons v vs =>
     simp only [A5] at h1
     obtain ⟨u, us, rfl, hu, hus⟩ := h1
     cases vs with
     | nil =>
       simp only [A5] at hus; subst hus
       simpa [Hw] using hu
     | cons v2 vs =>
       simp only [A5] at hus
       obtain ⟨u2, us2, rfl, hu2, hus2⟩ := hus
       simp only [Hw, Rep]
       exact ⟨u :: u2 :: us2, by simp, by simp only [A5]; exact ⟨_, _, rfl, hu, _, _, rfl, hu2, hus2⟩⟩
theorem A1.of_ex {P : Program} {W0 : World} {f : FuncId} {fn : Func} {c : Code} {args : List AVal} {H : Hz} {v : AVal} {H' : Hz} (hf : P.funcs[f]? = some fn) (hb : fn.body = some c) (hn : fn.name ≠ "runtime.NumGoroutine") (hl : args.length ≤ 4094)
 (h : Ex P W0 c ⟨Ed 0 args .leaf, H, args.length + (fn.ntmps - args.length)⟩ fun e s' => (match e with | .exit _ => False | _ => True) ∧ ∃ vs, D3 P s' fn.results.toList = some vs ∧ (J4 H.length (Hw vs) s'.H = (v, H') ∨ (Hw vs, s'.H) = (v, H'))) :
 A1 P W0 f args H v H' := by
 refine ⟨⟨fn, c, hf, hb, hn⟩, fun F bs w cargs hh hr => ?_⟩
 refine calls_of_wp hf hb (h F bs _ w (Ez hh hr hl fn.ntmps) _ fun e s' bs' a' w' hk hrs hext hd => ?_)
 obtain ⟨hne, vs, hvs, hlv⟩ := hk
 obtain ⟨cv, h1, h2⟩ := Eh hrs hvs
 simp only at hext
 have hlast : ∃ bs'', Rep F bs'' H' w' v cv ∧ A7 W0 F bs'' H' w' ∧ Ext bs H w bs'' H' w' := by
  rcases hlv with hlv | hlv
  · obtain ⟨bs'', h3, h4, h5⟩ := Ns hrs.heap hext h2
    rw [hlv] at h3 h4 h5
    exact ⟨bs'', h3, h4, h5⟩
  · injection hlv with e1 e2
    subst e1; subst e2
    exact ⟨bs', h2, hrs.heap, hext⟩
 obtain ⟨bs'', h3, h4, h5⟩ := hlast
 have fin : bodyPost P fn (fun e w' => ∃ cv bs', e = .returned cv ∧ Rep F bs' H' w' v cv ∧ A7 W0 F bs' H' w' ∧ Ext bs H w bs' H' w') .ret a' w' := ⟨hd, cv, h1, cv, bs'', rfl, h3, h4, h5⟩
 cases e with
 | normal => exact fin
 | ret => exact fin
 | exit id => exact hne.elim
end Go.Abs
namespace Go.Abs
open Go.RowKit
def AOpd.tmps : AOpd → List Nat
 | .tmp t => [t]
 | _ => []
def W2 (l : List AOpd) : List Nat := l.flatMap AOpd.tmps
def Z3 : Option AOpd → List Nat
 | some x => x.tmps
 | none => []
def Zx (l : List (Nat × Nat × AOpd)) : List Nat := l.flatMap fun p => p.2.2.tmps
def AOp.tmps : AOp → List Nat
 | .move x | .box _ x | .nilCheck x | .un _ x | .conv _ x | .fieldAddr _ x | .range x | .next x | .extract x _ | .len _ x | .iface _ x | .load _ _ x => x.tmps
 | .pick c a b => c.tmps ++ a.tmps ++ b.tmps
 | .alloc _ _ => []
 | .build _ ps => Zx ps
 | .bslice _ _ _ _ ps => Zx ps
 | .store _ a x => a.tmps ++ x.tmps
 | .bin _ _ x y => x.tmps ++ y.tmps
 | .idxSl _ x i | .idxArr _ _ x i | .idxStr x i => x.tmps ++ i.tmps
 | .cutStr x lo hi | .cutSl _ x lo hi => x.tmps ++ Z3 lo ++ Z3 hi
 | .mkfn _ first cap => W2 first ++ W2 cap
 | .call f args => f.tmps ++ W2 args
 | .append _ _ _ x y | .mm _ x y | .eqs _ _ x y | .idxVal _ _ _ x y => x.tmps ++ y.tmps
 | .field _ _ _ x => x.tmps
 | .cutArr _ _ x hi => x.tmps ++ Z3 hi
 | .clear _ _ x => x.tmps
 | .mkSl _ _ _ x y => x.tmps ++ y.tmps
 | .mkMap => []
 | .mapUpd m k v => m.tmps ++ k.tmps ++ v.tmps
 | .mapGet m k => m.tmps ++ k.tmps
 | .pan x => x.tmps
 | .tas _ x => x.tmps
 | .appS _ x y => x.tmps ++ y.tmps
 | .cut0 x => x.tmps
section
variable {G : List (Nat × AVal)} {e e' : Env} {H : Hz} {n : Nat}
theorem Ad {x : AOpd} (h : ∀ t ∈ x.tmps, e.get t = e'.get t) : ev G ⟨e, H, n⟩ x = ev G ⟨e', H, n⟩ x := by
 cases x with
 | tmp t => exact h t (by simp [AOpd.tmps])
 | val a => rfl
 | glob g => rfl
theorem J9 {x : Option AOpd} (h : ∀ t ∈ Z3 x, e.get t = e'.get t) : oev G ⟨e, H, n⟩ x = oev G ⟨e', H, n⟩ x := by
 cases x with
 | none => rfl
 | some x => simp only [oev]; rw [Ad h]
theorem Le : ∀ {l : List AOpd}, (∀ t ∈ W2 l, e.get t = e'.get t) → evs G ⟨e, H, n⟩ l = evs G ⟨e', H, n⟩ l
 | [], _ => rfl
 | x :: l, h => by
   simp only [W2, List.flatMap_cons, List.mem_append] at h
   simp only [evs]
   rw [Ad (fun t ht => h t (.inl ht)), Le (l := l) (fun t ht => h t (.inr ht))]
theorem M4 : ∀ {l : List (Nat × Nat × AOpd)}, (∀ t ∈ Zx l, e.get t = e'.get t) → Q5 G ⟨e, H, n⟩ l = Q5 G ⟨e', H, n⟩ l
 | [], _ => rfl
 | (a, b, x) :: l, h => by
   simp only [Zx, List.flatMap_cons, List.mem_append] at h
   simp only [Q5]
   rw [Ad (fun t ht => h t (.inl ht)), M4 (l := l) (fun t ht => h t (.inr ht))]
theorem A0o {o : AOp} (h : ∀ t ∈ o.tmps, e.get t = e'.get t) : aop G ⟨e, H, n⟩ o = aop G ⟨e', H, n⟩ o := by
 cases o <;> simp only [AOp.tmps, List.mem_append, or_imp, forall_and] at h <;> simp only [aop]
 case move x => rw [Ad h]
 case pick c a b => rw [Ad h.1.1, Ad h.1.2, Ad h.2]
 case mapUpd c a b => rw [Ad h.1.1, Ad h.1.2, Ad h.2]
 case mapGet m k => rw [Ad h.1, Ad h.2]
 case box T x => rw [Ad h]
 case build zs ps => rw [M4 h]
 case bslice a b c zs ps => rw [M4 h]
 case load m g x => rw [Ad h]
 case store m a x => rw [Ad h.1, Ad h.2]
 case nilCheck x => rw [Ad h]
 case bin op d x y => rw [Ad h.1, Ad h.2]
 case un op x => rw [Ad h]
 case tas T x => rw [Ad h]
 case appS e x y => rw [Ad h.1, Ad h.2]
 case cut0 x => rw [Ad h]
 case conv c x => rw [Ad h]
 case fieldAddr o x => rw [Ad h]
 case idxSl k x i => rw [Ad h.1, Ad h.2]
 case idxArr m k x i => rw [Ad h.1, Ad h.2]
 case idxStr x i => rw [Ad h.1, Ad h.2]
 case cutStr x lo hi => rw [Ad h.1.1, J9 h.1.2, J9 h.2]
 case cutSl k x lo hi => rw [Ad h.1.1, J9 h.1.2, J9 h.2]
 case range x => rw [Ad h]
 case next x => rw [Ad h]
 case extract x i => rw [Ad h]
 case mkfn f a b => rw [Le h.1, Le h.2]
 case call f args => rw [Ad h.1, Le h.2]
 case append a b c x y => rw [Ad h.1, Ad h.2]
 case len s x => rw [Ad h]
 case iface T x => rw [Ad h]
 case mm b x y => rw [Ad h.1, Ad h.2]
 case eqs b e x y => rw [Ad h.1, Ad h.2]
 case idxVal a b c x y => rw [Ad h.1, Ad h.2]
 case field a b c x => rw [Ad h]
 case cutArr a b x hi => rw [Ad h.1, J9 h.2]
 case clear a b x => rw [Ad h]
 case mkSl a b c x y => rw [Ad h.1, Ad h.2]
end
section
variable (P : Program) (W0 : World) (G : List (Nat × AVal)) (ops : Array Oper)
def D7 (o : Oper) (s : St) (K : AVal → Hz → Prop) : Prop :=
 match Bq ops s o.guard with
 | some true => match Ah P o.op with
   | some op => H7 P W0 s.H (aop G s op) K
   | none => False
 | some false => K (.tup []) s.H
 | none => False
def Fa (dst : Option Nat) (v : AVal) (e : Env) : Env :=
 match dst with
 | none => e
 | some d => Env.put 12 d v e
def Et (dst : Option Nat) (n : Nat) : Bool :=
 match dst with
 | none => true
 | some d => Nat.blt d n && Nat.blt d 4094
def Oj (g : Option (Nat × Bool)) : List Nat :=
 match g with
 | none => []
 | some (j, _) => match (ops[j]?).bind (·.dst) with
   | some d => [d]
   | none => []
def reads (o : Oper) : List Nat :=
 Oj ops o.guard ++ match Ah P o.op with
  | some op => op.tmps
  | none => []
end
section
variable {P : Program} {W0 : World} {G : List (Nat × AVal)} {ops : Array Oper} {F : Nat → Prop}
theorem Su {o : Oper} {s : St} {v : AVal} {H' : Hz} (h : D7 P W0 G ops o s fun v' H'' => v' = v ∧ H'' = H') (hd : Et o.dst s.n = true) :
 Gu P W0 G ops o s fun s' => s' = ⟨Fa o.dst v s.env, H', s.n⟩ := by
 have hput : Ou s o.dst v H' fun s' => s' = ⟨Fa o.dst v s.env, H', s.n⟩ := by
  cases ho : o.dst with
  | none => exact rfl
  | some d => rw [ho] at hd; exact ⟨hd, rfl⟩
 unfold D7 at h
 unfold Gu
 cases hg : Bq ops s o.guard with
 | none => rw [hg] at h; exact h.elim
 | some b =>
   rw [hg] at h
   cases b with
   | false => obtain ⟨h1, h2⟩ := h; subst h1; subst h2; exact hput
   | true =>
     simp only at h ⊢
     cases hc : Ah P o.op with
     | none => rw [hc] at h; exact h.elim
     | some op =>
       rw [hc] at h
       simp only at h ⊢
       cases hr : aop G s op with
       | none => rw [hr] at h; exact h.elim
       | some r =>
         rw [hr] at h
         cases r with
         | val v1 H1 side => obtain ⟨h1, h2, h3⟩ := h; subst h2; subst h3; exact ⟨h1, hput⟩
         | skip H1 => obtain ⟨h2, h3⟩ := h; subst h2; subst h3; exact hput
         | call f args => obtain ⟨v1, H1, h1, h2, h3⟩ := h; subst h2; subst h3; exact ⟨_, _, h1, hput⟩
theorem P7 {e e' : Env} {H H' : Hz} {n : Nat} {g : Option (Nat × Bool)} (h : ∀ t ∈ Oj ops g, e.get t = e'.get t) : Bq ops ⟨e, H, n⟩ g = Bq ops ⟨e', H', n⟩ g := by
 cases g with
 | none => rfl
 | some p =>
   obtain ⟨j, want⟩ := p
   simp only [Oj] at h
   simp only [Bq]
   cases hd : (ops[j]?).bind (·.dst) with
   | none => rfl
   | some d =>
     rw [hd] at h
     simp only [h d (by simp)]
theorem P4 {e e' : Env} {H : Hz} {n : Nat} {o : Oper} {K : AVal → Hz → Prop} (h : ∀ t ∈ reads P ops o, e.get t = e'.get t) (hk : D7 P W0 G ops o ⟨e, H, n⟩ K) : D7 P W0 G ops o ⟨e', H, n⟩ K := by
 simp only [reads, List.mem_append, or_imp, forall_and] at h
 unfold D7 at hk ⊢
 rw [← P7 (e := e) (H := H) h.1]
 cases hg : Bq ops ⟨e, H, n⟩ o.guard with
 | none => rw [hg] at hk; exact hk
 | some b =>
   rw [hg] at hk
   cases b with
   | false => exact hk
   | true =>
     simp only at hk ⊢
     cases hc : Ah P o.op with
     | none => rw [hc] at hk; exact hk
     | some op =>
       rw [hc] at hk h
       simp only at hk h ⊢
       rw [← A0o h.2]
       exact hk
theorem RS.env_eq {W0 : World} {bs : List Nat} {s : St} {a : Act} {w : World} (hs : RS W0 F bs s a w) {e : Env} (h : ∀ t, e.get t = s.env.get t) : RS W0 F bs ⟨e, s.H, s.n⟩ a w :=
 ⟨hs.heap, hs.size, fun t v hv => hs.env t v (by rw [← h]; exact hv)⟩
structure Plan where
 v : Nat → AVal
 eff : Nat → Bool
 ok : Nat → Prop
 dn : Nat → Nat → Bool
 nxt : Nat → Nat → Nat
 fin : Nat
 Hs : Nat → Hz
 mask : Nat → Nat → Bool
 env : Nat → Env
def Plan.may (p : Plan) (N σ j : Nat) : Prop := (∀ i, i < N → p.eff i = true → p.mask j i = true → p.dn σ i = true) ∧ ∀ i, i < N → p.eff i = true → p.mask i j = true → p.dn σ i = false
structure Iw (P : Program) (W0 : World) (G : List (Nat × AVal)) (ops : Array Oper) (s : St) (p : Plan) : Prop where
 back : ∀ (j : Nat) (o : Oper), ops[j]? = some o → ∀ e ∈ o.after, Region.binds .any e = true → e.on < j
 mask : ∀ (j : Nat) (o : Oper) (i : Nat), ops[j]? = some o → p.mask j i = true → ∃ e ∈ o.after, Region.binds .any e = true ∧ (e.on = i ∨ p.mask e.on i = true)
 uniq : ∀ (i j : Nat) (oi oj : Oper) (t : Nat), ops[i]? = some oi → ops[j]? = some oj → oi.dst = some t → oj.dst = some t → i = j
 rd : ∀ (j : Nat) (oj : Oper) (t : Nat), ops[j]? = some oj → t ∈ Abs.reads P ops oj → ∀ (i : Nat) (oi : Oper), ops[i]? = some oi → oi.dst = some t → p.mask j i = true ∨ p.mask i j = true
 env0 : p.env 0 = s.env
 env1 : ∀ (i : Nat) (o : Oper), ops[i]? = some o → p.env (i + 1) = Fa o.dst (p.v i) (p.env i)
 ok0 : p.ok 0
 dn0 : ∀ i, i < ops.size → p.eff i = true → p.dn 0 i = false
 h0 : p.Hs 0 = s.H
 quiet : ∀ (j : Nat) (o : Oper), ops[j]? = some o → p.eff j = false → ∀ σ, p.ok σ → p.may ops.size σ j → D7 P W0 G ops o ⟨p.env j, p.Hs σ, s.n⟩ fun v' H' => v' = p.v j ∧ H' = p.Hs σ
 loud : ∀ (j : Nat) (o : Oper), ops[j]? = some o → p.eff j = true → ∀ σ, p.ok σ → p.dn σ j = false → p.may ops.size σ j →
  (D7 P W0 G ops o ⟨p.env j, p.Hs σ, s.n⟩ fun v' H' => v' = p.v j ∧ H' = p.Hs (p.nxt σ j)) ∧ p.ok (p.nxt σ j) ∧ ∀ i, i < ops.size → p.eff i = true → (p.dn (p.nxt σ j) i = true ↔ p.dn σ i = true ∨ i = j)
 last : ∀ σ, p.ok σ → (∀ i, i < ops.size → p.eff i = true → p.dn σ i = true) → p.Hs σ = p.Hs p.fin
 dst : ∀ (j : Nat) (o : Oper), ops[j]? = some o → Et o.dst s.n = true
def Ii (ops : Array Oper) (p : Plan) (e0 : Env) (done : Nat → Prop) (e : Env) : Prop :=
 ∀ t, (∃ (i : Nat) (o : Oper), ops[i]? = some o ∧ done i ∧ o.dst = some t ∧ e.get t = some (p.v i)) ∨ ((∀ (i : Nat) (o : Oper), ops[i]? = some o → o.dst = some t → ¬ done i) ∧ e.get t = e0.get t)
theorem Ii.step {s : St} {p : Plan} (hp : Iw P W0 G ops s p) {done done' : Nat → Prop} {e : Env} (h : Ii ops p s.env done e) {j : Nat} {o : Oper} (hj : ops[j]? = some o) (hd : ∀ i, done' i ↔ done i ∨ i = j) :
 Ii ops p s.env done' (Fa o.dst (p.v j) e) := by
 have hdo := hp.dst j o hj
 intro t
 cases ho : o.dst with
 | none =>
   simp only [Fa]
   rcases h t with ⟨i, oi, h1, h2, h3, h4⟩ | ⟨h1, h2⟩
   · exact .inl ⟨i, oi, h1, (hd i).2 (.inl h2), h3, h4⟩
   · refine .inr ⟨fun i oi hi hti hdi => ?_, h2⟩
     rcases (hd i).1 hdi with h' | h'
     · exact h1 i oi hi hti h'
     · subst h'; rw [hj] at hi; injection hi with hi; subst hi; rw [ho] at hti; cases hti
 | some d =>
   rw [ho] at hdo
   have hlt : d < s.n ∧ d < 4094 := by simpa [Et, Nat.blt_eq] using hdo
   simp only [Fa]
   rw [Env.get_put 12 d (p.v j) e t (Nat.add_le_add_right (Nat.le_of_lt hlt.2) 2)]
   by_cases htd : t = d
   · subst htd
     rw [if_pos rfl]
     exact .inl ⟨j, o, hj, (hd j).2 (.inr rfl), ho, rfl⟩
   · rw [if_neg htd]
     rcases h t with ⟨i, oi, h1, h2, h3, h4⟩ | ⟨h1, h2⟩
     · exact .inl ⟨i, oi, h1, (hd i).2 (.inl h2), h3, h4⟩
     · refine .inr ⟨fun i oi hi hti hdi => ?_, h2⟩
       rcases (hd i).1 hdi with h' | h'
       · exact h1 i oi hi hti h'
       · subst h'; rw [hj] at hi; injection hi with hi; subst hi; rw [ho] at hti; injection hti with hti; exact htd hti.symm
theorem Ii.seq {s : St} {p : Plan} (hp : Iw P W0 G ops s p) : ∀ j, j ≤ ops.size → Ii ops p s.env (fun i => i < j) (p.env j)
 | 0, _ => fun t => .inr ⟨fun i o _ _ h => absurd h (Nat.not_lt_zero i), by rw [hp.env0]⟩
 | j + 1, hj => by
   have ho : ops[j]? = some (ops[j]'(by omega)) := Array.getElem?_eq_getElem (by omega)
   rw [hp.env1 j _ ho]
   exact (Ii.seq hp j (by omega)).step hp ho (fun i => by constructor <;> intro h <;> omega)
theorem Ii.agree {s : St} {p : Plan} (hp : Iw P W0 G ops s p) {d1 d2 : Nat → Prop} {e1 e2 : Env} (h1 : Ii ops p s.env d1 e1) (h2 : Ii ops p s.env d2 e2) {t : Nat} (h : ∀ (i : Nat) (o : Oper), ops[i]? = some o → o.dst = some t → (d1 i ↔ d2 i)) : e1.get t = e2.get t := by
 rcases h1 t with ⟨i, o, a1, a2, a3, a4⟩ | ⟨a1, a2⟩
 · rcases h2 t with ⟨k, ok, b1, b2, b3, b4⟩ | ⟨b1, b2⟩
   · have := hp.uniq i k o ok t a1 b1 a3 b3
     subst this
     rw [a4, b4]
   · exact absurd ((h i o a1 a3).1 a2) (b1 i o a1 a3)
 · rcases h2 t with ⟨k, ok, b1, b2, b3, b4⟩ | ⟨b1, b2⟩
   · exact absurd ((h k ok b1 b3).2 b2) (a1 k ok b1 b3)
   · rw [a2, b2]
structure Inv (P : Program) (W0 : World) (G : List (Nat × AVal)) (ops : Array Oper) (s : St) (p : Plan) (F : Nat → Prop) (bs : List Nat) (a0 : Act) (w0 : World) (listed : Array Bool) (a : Act) (w : World) : Prop where
 size : listed.size = ops.size
 down : ∀ (j : Nat) (o : Oper), ops[j]? = some o → listed.getD j true = true → ∀ e ∈ o.after, Region.binds .any e = true → listed.getD e.on false = true
 go : ∃ (e : Env) (bs' : List Nat) (c : Nat), RS W0 F bs' ⟨e, p.Hs c, s.n⟩ a w ∧ Ext bs s.H w0 bs' (p.Hs c) w ∧ a.defers = a0.defers ∧ p.ok c ∧
  (∀ i, i < ops.size → p.eff i = true → (listed.getD i true = true ↔ p.dn c i = true)) ∧ Ii ops p s.env (fun i => listed.getD i true = true) e
theorem Inv.mask {s : St} {p : Plan} (hp : Iw P W0 G ops s p) {listed : Array Bool} (hsz : listed.size = ops.size)
 (down : ∀ (j : Nat) (o : Oper), ops[j]? = some o → listed.getD j true = true → ∀ e ∈ o.after, Region.binds .any e = true → listed.getD e.on false = true) :
 ∀ (j : Nat) (o : Oper), ops[j]? = some o → (∀ e ∈ o.after, Region.binds .any e = true → listed.getD e.on false = true) → ∀ i, p.mask j i = true → listed.getD i true = true := by
 intro j
 induction j using Nat.strongRecOn with
 | _ j ih =>
   intro o ho hpre i hm
   obtain ⟨e, he, hb, h⟩ := hp.mask j o i ho hm
   have hlt := hp.back j o ho e he hb
   have hl := hpre e he hb
   have hj := (Array.getElem?_eq_some_iff.1 ho).1
   have hon : e.on < listed.size := by omega
   have hl' : listed.getD e.on true = true := by
    simp [Array.getD_eq_getD_getElem?, Array.getElem?_eq_getElem hon] at hl ⊢; exact hl
   rcases h with rfl | h
   · exact hl'
   · have hoe : ops[e.on]? = some (ops[e.on]'(by omega)) := Array.getElem?_eq_getElem (by omega)
     exact ih e.on hlt _ hoe (fun e2 he2 hb2 => down e.on _ hoe hl' e2 he2 hb2) i h
def unl (n : Nat) (listed : Array Bool) : List Nat := (List.range n).filter fun i => !listed.getD i true
theorem unl_set {n : Nat} {listed : Array Bool} {i : Nat} (hi : i < n) (hn : n = listed.size) (hu : listed.getD i true = false) : (unl n (listed.setIfInBounds i true)).length < (unl n listed).length := by
 have h : unl n (listed.setIfInBounds i true) = (unl n listed).filter fun j => j != i := by
  unfold unl
  rw [List.filter_filter]
  refine List.filter_congr fun j hj => ?_
  by_cases hji : j = i
  · subst hji
    simp [Array.getD_eq_getD_getElem?, Array.getElem?_setIfInBounds_self_of_lt (show j < listed.size by omega)]
  · rw [getD_set_ne true (Ne.symm hji)]
    simp [hji]
 rw [h]
 refine List.length_filter_lt_length_iff_exists.2 ⟨i, ?_, by simp⟩
 unfold unl
 rw [List.mem_filter, List.mem_range]
 exact ⟨hi, by rw [hu]; rfl⟩
theorem Xu {s : St} {p : Plan} (hp : Iw P W0 G ops s p) {listed : Array Bool} (hsz : listed.size = ops.size) (hr : Region.ready .any ops listed = []) : ∀ j, j < ops.size → listed.getD j true = true := by
 intro j
 induction j using Nat.strongRecOn with
 | _ j ih =>
   intro hj
   cases hl : listed.getD j true with
   | true => rfl
   | false =>
     have ho : ops[j]? = some (ops[j]'hj) := Array.getElem?_eq_getElem hj
     have : j ∈ Region.ready .any ops listed := mem_ready.2 ⟨hl, _, ho, fun e he hb => by
      have hlt := hp.back j _ ho e he hb
      have h1 := ih e.on hlt (by omega)
      have hon : e.on < listed.size := by omega
      simp [Array.getD_eq_getD_getElem?, Array.getElem?_eq_getElem hon] at h1 ⊢; exact h1⟩
     rw [hr] at this
     cases this
theorem Y9 (hg : GOK W0 G) {s : St} {p : Plan} (hp : Iw P W0 G ops s p) {bs : List Nat} {a0 : Act} {w0 : World} {Q : Exit → Act → World → Prop}
 (hQ : ∀ bs' a w, RS W0 F bs' ⟨p.env ops.size, p.Hs p.fin, s.n⟩ a w → Ext bs s.H w0 bs' (p.Hs p.fin) w → a.defers = a0.defers → Q .normal a w) :
 ∀ (fuel : Nat) (listed : Array Bool) (a : Act) (w : World), Inv P W0 G ops s p F bs a0 w0 listed a w → (unl ops.size listed).length ≤ fuel → wpAny P .any ops Q fuel listed a w := by
 have fin : ∀ (listed : Array Bool) (a : Act) (w : World), Inv P W0 G ops s p F bs a0 w0 listed a w → Region.ready .any ops listed = [] → Q .normal a w := by
  intro listed a w hi hr
  obtain ⟨e, bs', c, h1, h2, h3, h4, h5, h6⟩ := hi.go
  have hall := Xu hp hi.size hr
  have hc : p.Hs c = p.Hs p.fin := hp.last c h4 fun i i1 i2 => (h5 i i1 i2).1 (hall i i1)
  rw [hc] at h1 h2
  refine hQ bs' a w (h1.env_eq fun t => ?_) h2 h3
  refine Ii.agree hp (Ii.seq hp ops.size (Nat.le_refl _)) h6 fun i o hio _ => ?_
  have hi := (Array.getElem?_eq_some_iff.1 hio).1
  exact ⟨fun _ => hall i hi, fun _ => hi⟩
 intro fuel
 induction fuel with
 | zero =>
   intro listed a w hi hu
   have hnil : Region.ready .any ops listed = [] := by
    cases hr : Region.ready .any ops listed with
    | nil => rfl
    | cons j r =>
      have hj : j ∈ Region.ready .any ops listed := by rw [hr]; simp
      obtain ⟨h1, o, h2, _⟩ := mem_ready.1 hj
      have : j ∈ unl ops.size listed := by
       unfold unl
       rw [List.mem_filter, List.mem_range]
       exact ⟨(Array.getElem?_eq_some_iff.1 h2).1, by rw [h1]; rfl⟩
      rw [List.length_eq_zero_iff.1 (Nat.le_zero.1 hu)] at this
      cases this
   exact ⟨hnil, fin listed a w hi hnil⟩
 | succ fuel ih =>
   intro listed a w hi hu
   refine ⟨fin listed a w hi, fun j hj => ?_⟩
   obtain ⟨hjl, o, ho, hpre⟩ := mem_ready.1 hj
   have hjs : j < ops.size := (Array.getElem?_eq_some_iff.1 ho).1
   obtain ⟨e, bs', c, h1, h2, h3, h4, h5, h6⟩ := hi.go
   have hmj := Inv.mask hp hi.size hi.down j o ho hpre
   have hnot : ∀ i, i < ops.size → p.mask i j = true → listed.getD i true = false := by
    intro i his hm
    cases hl : listed.getD i true with
    | false => rfl
    | true =>
      have hio : ops[i]? = some (ops[i]'his) := Array.getElem?_eq_getElem his
      have := Inv.mask hp hi.size hi.down i _ hio (fun e he hb => hi.down i _ hio hl e he hb) j hm
      rw [hjl] at this; cases this
   have hrd : ∀ t ∈ reads P ops o, (p.env j).get t = e.get t := by
    intro t ht
    refine Ii.agree hp (Ii.seq hp j (Nat.le_of_lt hjs)) h6 fun i oi hio hti => ?_
    have his : i < ops.size := (Array.getElem?_eq_some_iff.1 hio).1
    have ltOf : ∀ x y ox, ops[x]? = some ox → p.mask x y = true → y < x := by
     intro x
     induction x using Nat.strongRecOn with
     | _ x ihx =>
       intro y ox hox hm
       obtain ⟨ed, hed, hb, h⟩ := hp.mask x ox y hox hm
       have hlt := hp.back x ox hox ed hed hb
       rcases h with rfl | h
       · exact hlt
       · have hxs := (Array.getElem?_eq_some_iff.1 hox).1
         have := ihx ed.on hlt y _ (Array.getElem?_eq_getElem (show ed.on < ops.size by omega)) h
         omega
    rcases hp.rd j o t ho ht i oi hio hti with hm | hm
    · exact ⟨fun _ => hmj i hm, fun _ => ltOf j i o ho hm⟩
    · have := hnot i his hm
      have hlt := ltOf i j oi hio hm
      exact ⟨fun h => by omega, fun h => by rw [this] at h; cases h⟩
   have hev : ∃ c', D7 P W0 G ops o ⟨e, p.Hs c, s.n⟩ (fun v' H' => v' = p.v j ∧ H' = p.Hs c') ∧ p.ok c' ∧
    ∀ i, i < ops.size → p.eff i = true → ((listed.setIfInBounds j true).getD i true = true ↔ p.dn c' i = true) := by
    have hset : ∀ i, i ≠ j → (listed.setIfInBounds j true).getD i true = listed.getD i true := fun i hij => getD_set_ne true (Ne.symm hij)
    have hsetj : (listed.setIfInBounds j true).getD j true = true := by
     simp [Array.getD_eq_getD_getElem?, Array.getElem?_setIfInBounds_self_of_lt (show j < listed.size by rw [hi.size]; exact hjs)]
    have hmay : p.may ops.size c j := by
     refine ⟨fun i i1 i2 i3 => (h5 i i1 i2).1 (hmj i i3), fun i i1 i2 i3 => ?_⟩
     have hl := hnot i i1 i3
     cases hd : p.dn c i with
     | false => rfl
     | true => rw [(h5 i i1 i2).2 hd] at hl; cases hl
    cases hef : p.eff j with
    | false =>
      refine ⟨c, P4 hrd (hp.quiet j o ho hef c h4 hmay), h4, fun i i1 i2 => ?_⟩
      have hij : i ≠ j := fun h => by subst h; rw [hef] at i2; cases i2
      rw [hset i hij]; exact h5 i i1 i2
    | true =>
      have hdj : p.dn c j = false := by
       cases hd : p.dn c j with
       | false => rfl
       | true => rw [(h5 j hjs hef).2 hd] at hjl; cases hjl
      obtain ⟨l1, l2, l3⟩ := hp.loud j o ho hef c h4 hdj hmay
      refine ⟨p.nxt c j, P4 hrd l1, l2, fun i i1 i2 => ?_⟩
      rw [l3 i i1 i2]
      by_cases hij : i = j
      · subst hij; exact ⟨fun _ => .inr rfl, fun _ => hsetj⟩
      · rw [hset i hij, h5 i i1 i2]
        exact ⟨fun h => .inl h, fun h => h.resolve_right hij⟩
   obtain ⟨c', hev, hc', h5'⟩ := hev
   have hop := Su (s := ⟨e, p.Hs c, s.n⟩) hev (hp.dst j o ho)
   unfold wpOp
   rw [ho]
   simp only
   refine J1 hg h1 hop fun s' bs'' a' w' hs' hrs hext hdf => ?_
   subst hs'
   refine ih (listed.setIfInBounds j true) a' w' ⟨by simp [hi.size], fun k ok hk hkl ed hed hb => ?_, _, bs'', c', hrs, h2.trans hext, hdf.trans h3, hc', h5', ?_⟩ ?_
   · by_cases hkj : k = j
     · subst hkj
       rw [ho] at hk; injection hk with hk; subst hk
       exact getD_set_true (hpre ed hed hb)
     · rw [getD_set_ne true (Ne.symm hkj)] at hkl
       exact getD_set_true (hi.down k ok hk hkl ed hed hb)
   · refine h6.step hp ho fun i => ?_
     by_cases hij : i = j
     · subst hij
       simp [Array.getD_eq_getD_getElem?, Array.getElem?_setIfInBounds_self_of_lt (show i < listed.size by rw [hi.size]; exact hjs)]
     · rw [getD_set_ne true (Ne.symm hij)]; simp [hij]
   · have := unl_set hjs hi.size.symm hjl
     omega
theorem Ext.drawn (bs : List Nat) (H : Hz) (w : World) (n : Nat) : Ext bs H w bs H { w with drawn := n } :=
 ⟨Nat.le_refl _, fun _ _ _ => rfl, fun _ h => .inl h, fun i o h => ⟨o, h, by
  cases o with
  | dead => simp [B0]
  | iter s p => exact .inr ⟨s, p, rfl, rfl⟩
  | mp es => exact .inr ⟨es, rfl, rfl⟩
  | cells T cs op =>
    cases op with
    | false => exact .inr ⟨T, cs, rfl, rfl, rfl⟩
    | true => exact .inr ⟨T, cs, rfl, .inr ⟨rfl, rfl, fun _ _ => rfl⟩⟩⟩⟩
theorem Ex.draw (hm : P.follows .mixedOrders = true) (hg : GOK W0 G) {id : Nat} {s : St} {p : Plan} (hp : Iw P W0 G ops s p) {K : Am → St → Prop} (hk : K .normal ⟨p.env ops.size, p.Hs p.fin, s.n⟩) : Ex P W0 (.region id ops true) s K :=
 fun F bs a w hs Q hq => wp_region_any hm (by
  have hext := Ext.drawn bs s.H w (w.drawn + 1)
  refine Y9 (F := F) (bs := bs) (a0 := a) (w0 := w) hg hp (fun bs' a' w' h1 h2 h3 => hq .normal _ bs' a' w' hk h1 h2 h3) ops.size _ a _ ⟨by simp, fun j o ho hl => ?_, p.env 0, bs, 0, ?_, ?_, rfl, hp.ok0, fun i hi hef => ?_, fun t => .inr ⟨fun i o ho _ hl => ?_, by rw [hp.env0]⟩⟩ ?_
  · have := (Array.getElem?_eq_some_iff.1 ho).1
    simp [Array.getD_eq_getD_getElem?, this] at hl
  · rw [hp.env0, hp.h0]
    refine ⟨⟨hs.heap.len, hs.heap.base.trans ?_, hs.heap.low, hs.heap.nodup, hs.heap.forb, fun i o b h1 h2 => (hs.heap.obj i o b h1 h2).ext hext rfl⟩, hs.size, fun t v hv => (hs.env t v hv).ext hext⟩
    exact ⟨rfl, rfl, rfl, Nat.le_refl _, fun _ _ => rfl⟩
  · rw [hp.h0]; exact hext
  · rw [hp.dn0 i hi hef]; simp [Array.getD_eq_getD_getElem?, hi]
  · have := (Array.getElem?_eq_some_iff.1 ho).1
    simp [Array.getD_eq_getD_getElem?, this] at hl
  · unfold unl
    exact Nat.le_trans (List.length_filter_le _ _) (by simp))
end
def AOp.kind : AOp → Nat
 | .move _ | .pick _ _ _ | .build _ _ | .bin _ _ _ _ | .un _ _ | .idxStr _ _ | .cutStr _ _ _ | .extract _ _ | .mkfn _ _ _ | .len _ _ | .iface _ _ | .mm _ _ _ | .eqs _ _ _ _ | .field _ _ _ _ | .idxVal _ _ _ _ _ => 0
 | .conv (.int _) _ | .conv .same _ | .conv .i2s _ => 0
 | .load _ _ _ | .nilCheck _ | .fieldAddr _ _ | .idxSl _ _ _ | .idxArr _ _ _ _ | .cutSl _ _ _ _ | .cutArr _ _ _ _ | .conv .b2s _ => 1
 | .call _ _ => 3
 | _ => 2
theorem Hv {G : List (Nat × AVal)} {s : St} {o : AOp} (hk : o.kind = 0 ∨ o.kind = 1) {r : ARes} (h : aop G s o = some r) : ∃ v side, r = .val v s.H side := by
 have hV : ∀ {x : Option AVal}, Jx s.H x = some r → ∃ v side, r = .val v s.H side := fun hx => by
  obtain ⟨v, _, rfl⟩ := Cj hx; exact ⟨v, [], rfl⟩
 have hS : ∀ {x : Option AV}, Vm s.H x = some r → ∃ v side, r = .val v s.H side := fun hx => by
  obtain ⟨v, side, _, rfl⟩ := L4 hx; exact ⟨v, side, rfl⟩
 cases o <;> (try (exfalso; revert hk; simp [AOp.kind]; done)) <;> simp only [aop] at h
 case conv c x =>
  split at h
  · rename_i a ha
    cases c <;> (try (exfalso; revert hk; simp [AOp.kind]; done)) <;> simp only [Lt] at h
    case int k => cases a <;> simp only [Yb, iS, reduceCtorEq] at h <;> exact ⟨_, _, h.symm⟩
    case same => cases a <;> simp only [Ym, iS, reduceCtorEq] at h <;> exact ⟨_, _, h.symm⟩
    case b2s => exact hV h
    case i2s => cases a <;> simp only [Xz, iS, reduceCtorEq] at h <;> exact ⟨_, _, h.symm⟩
  · cases h
 case idxSl k x i =>
  have hc : ∀ {b : Bool} {y z : Option ARes}, cond b y z = some r → y = some r ∨ z = some r := fun {b} {y} {z} h => by cases b <;> simp_all
  repeat' (split at h)
  all_goals first
   | (cases h; done)
   | (rcases hc h with h' | h'
      · injection h' with h'; exact ⟨_, _, h'.symm⟩
      · first
        | (cases h'; done)
        | (rcases hc h' with h' | h'
           · injection h' with h'; exact ⟨_, _, h'.symm⟩
           · cases h'))
 case len st x =>
  cases st
  · repeat' (split at h)
    all_goals first
     | (cases h; done)
     | (revert h; simp only [cond_false]; intro h; (repeat' (split at h)) <;> first | (cases h; done) | (injection h with h; exact ⟨_, _, h.symm⟩))
  · repeat' (split at h)
    all_goals first
     | (cases h; done)
     | (injection h with h; exact ⟨_, _, h.symm⟩)
 all_goals first
  | exact hV h
  | (repeat' (split at h)) <;> first
    | exact hV h
    | exact hS h
    | (cases h; done)
    | (injection h with h; exact ⟨_, _, h.symm⟩)
    | (revert h; cases (Nat.beq _ _ && _) <;> intro h <;> first | (cases h; done) | (injection h with h; exact ⟨_, _, h.symm⟩))
    | (revert h; cases (Nat.beq _ _) <;> intro h <;> first | (cases h; done) | exact hS h | (injection h with h; exact ⟨_, _, h.symm⟩))
theorem Gz {G : List (Nat × AVal)} {e : Env} {H H' : Hz} {n : Nat} (x : AOpd) : ev G ⟨e, H, n⟩ x = ev G ⟨e, H', n⟩ x := by cases x <;> rfl
theorem oev_H {G : List (Nat × AVal)} {e : Env} {H H' : Hz} {n : Nat} (x : Option AOpd) : oev G ⟨e, H, n⟩ x = oev G ⟨e, H', n⟩ x := by
 cases x with
 | none => rfl
 | some x => simp only [oev]; rw [Gz x]
theorem Zl {G : List (Nat × AVal)} {e : Env} {H H' : Hz} {n : Nat} : ∀ (l : List AOpd), evs G ⟨e, H, n⟩ l = evs G ⟨e, H', n⟩ l
 | [] => rfl
 | x :: l => by simp only [evs]; rw [Gz x, Zl l]
theorem A1t {G : List (Nat × AVal)} {e : Env} {H H' : Hz} {n : Nat} : ∀ (l : List (Nat × Nat × AOpd)), Q5 G ⟨e, H, n⟩ l = Q5 G ⟨e, H', n⟩ l
 | [] => rfl
 | (a, b, x) :: l => by simp only [Q5]; rw [Gz x, A1t l]
def P3 : Option ARes → Option (AVal × List (Int × Int))
 | some (.val v _ side) => some (v, side)
 | _ => none
theorem Oa {H H' : Hz} (x : Option AVal) : P3 (Jx H x) = P3 (Jx H' x) := by cases x <;> rfl
theorem ares0_S {H H' : Hz} (x : Option AV) : P3 (Vm H x) = P3 (Vm H' x) := by cases x <;> rfl
theorem R5 {G : List (Nat × AVal)} {e : Env} {H H' : Hz} {n : Nat} {o : AOp} (hk : o.kind = 0) : P3 (aop G ⟨e, H, n⟩ o) = P3 (aop G ⟨e, H', n⟩ o) := by
 cases o <;> (try (exfalso; revert hk; simp [AOp.kind]; done)) <;> simp only [aop]
 case move x => rw [Gz x]; exact Oa _
 case pick c a b =>
  rw [Gz (H := H) (H' := H') c, Gz (H := H) (H' := H') a, Gz (H := H) (H' := H') b]
  split
  · exact Oa _
  · rfl
 case build zs ps =>
  rw [A1t (H := H) (H' := H') ps]
  split
  · split <;> rfl
  · rfl
 case bin op d x y =>
  rw [Gz (H := H) (H' := H') x, Gz (H := H) (H' := H') y]
  split
  · split
    · exact ares0_S _
    · rfl
  · rfl
 case un op x =>
  rw [Gz (H := H) (H' := H') x]
  split
  · exact Oa _
  · rfl
 case conv c x =>
  rw [Gz (H := H) (H' := H') x]
  split
  · rename_i a ha
    cases c <;> (try (exfalso; revert hk; simp [AOp.kind]; done)) <;> simp only [Lt] <;> cases a <;> rfl
  · rfl
 case idxStr x i =>
  rw [Gz (H := H) (H' := H') x, Gz (H := H) (H' := H') i]
  split
  · split <;> rfl
  · rfl
 case cutStr x lo hi =>
  rw [Gz (H := H) (H' := H') x, oev_H (H := H) (H' := H') lo, oev_H (H := H) (H' := H') hi]
  split
  · split
    · split <;> rfl
    · rfl
  · rfl
 case extract x i =>
  rw [Gz (H := H) (H' := H') x]
  split
  · exact Oa _
  · rfl
 case mkfn f a b =>
  rw [Zl (H := H) (H' := H') a, Zl (H := H) (H' := H') b]
  split
  · split <;> rfl
  · rfl
 case len st x =>
  rw [Gz (H := H) (H' := H') x]
  split
  · cases st <;> rfl
  · cases st
    · simp only [cond_false]; split <;> rfl
    · rfl
  · rfl
 case mm b x y =>
  rw [Gz (H := H) (H' := H') x, Gz (H := H) (H' := H') y]
  split
  · split <;> rfl
  · rfl
 case eqs b e0 x y =>
  rw [Gz (H := H) (H' := H') x, Gz (H := H) (H' := H') y]
  split
  · split
    · split <;> rfl
    · rfl
  · rfl
 case idxVal a b c x y =>
  rw [Gz (H := H) (H' := H') x, Gz (H := H) (H' := H') y]
  split
  · split
    · split <;> rfl
    · rfl
  · rfl
 case field a b c x =>
  rw [Gz (H := H) (H' := H') x]
  split
  · exact Oa _
  · rfl
 case iface T x =>
  rw [Gz (H := H) (H' := H') x]
  split <;> rfl
def bEq (a b : Bool) : Bool := cond a b (not b)
theorem A1v {a b : Bool} (h : bEq a b = true) : a = b := by cases a <;> cases b <;> first | rfl | cases h
def onEq : Option Nat → Option Nat → Bool
 | none, none => true
 | some a, some b => Nat.beq a b
 | _, _ => false
theorem onEq_eq {a b : Option Nat} (h : onEq a b = true) : a = b := by
 cases a <;> cases b <;> simp only [onEq, bFt] at h
 · rfl
 · rw [nBq h]
mutual
def Gx : AVal → AVal → Bool
 | .bool a, .bool b => bEq a b
 | .int k a, .int j b => Qr k j && decide (a = b)
 | .str a, .str b => decide (a = b)
 | .agg a, .agg b => Jw a b
 | .tup a, .tup b => Jw a b
 | .nilSl, .nilSl => true
 | .emp, .emp => true
 | .row k a, .row j b => Nat.beq k j && Jw a b
 | .hsl k i o l c, .hsl k' i' o' l' c' => Nat.beq k k' && Nat.beq i i' && Nat.beq o o' && Nat.beq l l' && onEq c c'
 | .nilPtr, .nilPtr => true
 | .ptr i o, .ptr i' o' => Nat.beq i i' && Nat.beq o o'
 | .optr i o l, .optr i' o' l' => Nat.beq i i' && Nat.beq o o' && Nat.beq l l'
 | .eptr e o, .eptr e' o' => Gx e e' && Nat.beq o o'
 | .fn f a c, .fn f' a' c' => Nat.beq f f' && Jw a a' && Jw c c'
 | .nilFn, .nilFn => true
 | .nilMp, .nilMp => true
 | .iface t x, .iface t' x' => Nat.beq t t' && Gx x x'
 | .nilIf, .nilIf => true
 | .mref i, .mref i' => Nat.beq i i'
 | _, _ => false
def Jw : List AVal → List AVal → Bool
 | [], [] => true
 | a :: az, b :: bs => Gx a b && Jw az bs
 | _, _ => false
end
mutual
theorem Oh : ∀ (a b : AVal), Gx a b = true → a = b
 | .bool a, b, h => by cases b <;> simp only [Gx, bFt] at h; rw [A1v h]
 | .int k a, b, h => by
   cases b <;> simp only [Gx, bFt, bAt, dTe] at h
   rw [V7 h.1, h.2]
 | .str a, b, h => by
   cases b <;> simp only [Gx, bFt, dTe] at h
   rw [h]
 | .agg a, b, h => by
   cases b <;> simp only [Gx, bFt] at h
   rw [Gl _ _ h]
 | .tup a, b, h => by
   cases b <;> simp only [Gx, bFt] at h
   rw [Gl _ _ h]
 | .nilSl, b, h => by cases b <;> simp only [Gx, bFt] at h; rfl
 | .emp, b, h => by cases b <;> simp only [Gx, bFt] at h; rfl
 | .row k a, b, h => by
   cases b <;> simp only [Gx, bFt, bAt] at h
   rw [nBq h.1, Gl _ _ h.2]
 | .hsl k i o l c, b, h => by
   cases b <;> simp only [Gx, bFt, bAt] at h
   rw [nBq h.1.1.1.1, nBq h.1.1.1.2, nBq h.1.1.2, nBq h.1.2, onEq_eq h.2]
 | .nilPtr, b, h => by cases b <;> simp only [Gx, bFt] at h; rfl
 | .ptr i o, b, h => by
   cases b <;> simp only [Gx, bFt, bAt] at h
   rw [nBq h.1, nBq h.2]
 | .optr i o l, b, h => by
   cases b <;> simp only [Gx, bFt, bAt] at h
   rw [nBq h.1.1, nBq h.1.2, nBq h.2]
 | .eptr e o, b, h => by
   cases b <;> simp only [Gx, bFt, bAt] at h
   rw [Oh _ _ h.1, nBq h.2]
 | .fn f x c, b, h => by
   cases b <;> simp only [Gx, bFt, bAt] at h
   rw [nBq h.1.1, Gl _ _ h.1.2, Gl _ _ h.2]
 | .nilFn, b, h => by cases b <;> simp only [Gx, bFt] at h; rfl
 | .nilMp, b, h => by cases b <;> simp only [Gx, bFt] at h; rfl
 | .iface t x, b, h => by
   cases b <;> simp only [Gx, bFt, bAt] at h
   rw [nBq h.1, Oh _ _ h.2]
 | .nilIf, b, h => by cases b <;> simp only [Gx, bFt] at h; rfl
 | .mref i, b, h => by
   cases b <;> simp only [Gx, bFt] at h
   rw [nBq h]
theorem Gl : ∀ (a b : List AVal), Jw a b = true → a = b
 | [], b, h => by cases b <;> simp only [Jw, bFt] at h; rfl
 | x :: a, b, h => by
   cases b <;> simp only [Jw, bFt, bAt] at h
   rw [Oh _ _ h.1, Gl _ _ h.2]
end
def hoEq : A2 → A2 → Bool
 | .cells T a o, .cells T' a' o' => Nat.beq T T' && Jw a a' && bEq o o'
 | .iter s p, .iter s' p' => decide (s = s') && Nat.beq p p'
 | .mp a, .mp b => decide (a = b)
 | .dead, .dead => true
 | _, _ => false
def A16 : Hz → Hz → Bool
 | [], [] => true
 | a :: az, b :: bs => hoEq a b && A16 az bs
 | _, _ => false
theorem hoEq_eq {a b : A2} (h : hoEq a b = true) : a = b := by
 cases a <;> cases b <;> simp only [hoEq, bFt, bAt, dTe] at h
 · rw [nBq h.1.1, Gl _ _ h.1.2, A1v h.2]
 · rw [h.1, nBq h.2]
 · rw [h]
 · rfl
theorem Zz : ∀ {a b : Hz}, A16 a b = true → a = b
 | [], b, h => by cases b <;> simp only [A16, bFt] at h; rfl
 | x :: a, b, h => by
   cases b <;> simp only [A16, bFt, bAt] at h
   rw [hoEq_eq h.1, Zz h.2]
structure SP where
 n : Nat
 kind : List Nat
 mask : List Nat
 states : List Nat
def M9 (masks : List Nat) (o : Oper) : Nat := o.after.toList.foldl (fun m e => cond (Region.binds .any e) (Nat.lor (Nat.lor m (Nat.shiftLeft 1 e.on)) (masks.getD e.on 0)) m) 0
def tb (m i : Nat) : Bool := Nat.testBit m i
def Zk : List Oper → List Nat → List Nat
 | [], acc => acc
 | o :: r, acc => Zk r (acc ++ [M9 acc o])
def Br (P : Program) (o : Oper) : Nat :=
 match Ah P o.op with
 | some op => op.kind
 | none => 2
def SP.eff (p : SP) (j : Nat) : Bool := Nat.ble 2 (p.kind.getD j 0)
def SP.msk (p : SP) (j i : Nat) : Bool := tb (p.mask.getD j 0) i
def SP.mayB (p : SP) (σ j : Nat) : Bool := (List.range p.n).all fun i => cond (p.eff i) (cond (p.msk j i) (tb σ i) true && cond (p.msk i j) (not (tb σ i)) true) true
def SP.nxt (σ j : Nat) : Nat := Nat.lor σ (Nat.shiftLeft 1 j)
def SP.steps (p : SP) (σ : Nat) : List Nat := (List.range p.n).filter fun j => p.eff j && not (tb σ j) && p.mayB σ j
def Ye (x : Nat) : List Nat → Bool
 | [] => false
 | y :: r => cond (Nat.beq x y) true (Ye x r)
def M6 : List Nat → List Nat → List Nat → List Nat × List Nat
 | [], acc, new => (acc, new)
 | x :: r, acc, new => cond (Ye x acc) (M6 r acc new) (M6 r (acc ++ [x]) (new ++ [x]))
def O5 (p : SP) : Nat → List Nat → List Nat → List Nat
 | 0, _, acc => acc
 | _ + 1, [], acc => acc
 | f + 1, σ :: todo, acc => match M6 ((p.steps σ).map (SP.nxt σ)) acc [] with
   | (acc', new) => O5 p f (todo ++ new) acc'
def C3 (P : Program) (ops : List Oper) : SP :=
 let p : SP := { n := ops.length, kind := ops.map (Br P), mask := Zk ops [], states := [] }
 { p with states := O5 p 200 [0] [0] }
def A04 (o : Oper) (t : Nat) : Bool :=
 match o.dst with
 | some d => Nat.beq d t
 | none => false
def Q7 (P : Program) (ops : Array Oper) (p : SP) (j : Nat) (o : Oper) : Bool :=
 (o.after.toList.all fun e => cond (Region.binds .any e) (Nat.blt e.on j) true) &&
 Nat.beq (p.mask.getD j 0) (M9 p.mask o) &&
 Nat.beq (p.kind.getD j 0) (Br P o) &&
 (List.range p.n).all fun i =>
  match (ops[i]?).bind (·.dst) with
  | none => true
  | some d => (Nat.beq i j || not (A04 o d)) && ((reads P ops o).all fun t => cond (Nat.beq t d) (p.msk j i || p.msk i j) true)
def SP.allIn (p : SP) (σ : Nat) : Bool := (List.range p.n).all fun i => cond (p.eff i) (tb σ i) true
def SP.fin (p : SP) : Nat := (List.range p.n).foldl (fun σ i => cond (p.eff i) (SP.nxt σ i) σ) 0
def H8 (P : Program) (ops : Array Oper) (p : SP) : Bool :=
 Nat.beq p.n ops.size && Ye 0 p.states &&
 (p.states.all fun σ => (p.steps σ).all fun j => Ye (SP.nxt σ j) p.states) &&
 (p.states.all fun σ => cond (p.allIn σ) (Nat.beq σ p.fin) true) &&
 (List.range ops.size).all fun j =>
  match ops[j]? with
  | some o => Q7 P ops p j o
  | none => true
def To (p : SP) : Bool :=
 (match p.states with
 | [a, b] => Nat.beq a 0 && Nat.beq b (SP.nxt 0 (p.n - 1))
 | _ => false) && Nat.ble 1 p.n && p.eff (p.n - 1) &&
 (List.range (p.n - 1)).all fun j => Nat.beq (p.kind.getD j 0) 0 || (Nat.beq (p.kind.getD j 0) 1 && p.msk (p.n - 1) j)
def Lm (P : Program) (G : List (Nat × AVal)) (call : CallF) (ops : Array Oper) (o : Oper) (s : St) : Option (AVal × Hz) :=
 match Bq ops s o.guard with
 | some true => match Ah P o.op with
   | some op => Vz call s.H (aop G s op)
   | none => none
 | some false => some (.tup [], s.H)
 | none => none
abbrev HMap := List (Nat × Hz)
def lkH (σ : Nat) : HMap → Option Hz
 | [] => none
 | p :: r => cond (Nat.beq σ p.1) (some p.2) (lkH σ r)
structure Tr where
 env : Env
 v : AVal
 σ : Nat
def Oy (P : Program) (G : List (Nat × AVal)) (call : CallF) (ops : Array Oper) (p : SP) (n : Nat) : List Oper → Nat → Env → Nat → Hz → HMap → Option (List Tr × HMap × Env × Hz)
 | [], _, e, _, H, M => some ([], M, e, H)
 | o :: r, j, e, σ, H, M => match Et o.dst n with
   | true => match Lm P G call ops o ⟨e, H, n⟩ with
     | some (v, H') => match p.eff j with
       | true => match lkH (SP.nxt σ j) M with
         | none => match Oy P G call ops p n r (j + 1) (Fa o.dst v e) (SP.nxt σ j) H' ((SP.nxt σ j, H') :: M) with
           | some (l, rest) => some (⟨e, v, σ⟩ :: l, rest)
           | none => none
         | some _ => none
       | false => match Oy P G call ops p n r (j + 1) (Fa o.dst v e) σ H M with
         | some (l, rest) => some (⟨e, v, σ⟩ :: l, rest)
         | none => none
     | none => none
   | false => none
def Yr (P : Program) (G : List (Nat × AVal)) (call : CallF) (ops : Array Oper) (n : Nat) (o : Oper) (t : Tr) (σ j : Nat) (M : HMap) : Option HMap :=
 cond (Nat.beq σ t.σ) (some M) (match lkH σ M with
  | some H => match Lm P G call ops o ⟨t.env, H, n⟩ with
    | some (v, H') => cond (Gx v t.v) (match lkH (SP.nxt σ j) M with
      | some H'' => cond (A16 H' H'') (some M) none
      | none => some ((SP.nxt σ j, H') :: M)) none
    | none => none
  | none => none)
def X6 (P : Program) (G : List (Nat × AVal)) (call : CallF) (ops : Array Oper) (n : Nat) (l : List Tr) (σ : Nat) : List Nat → HMap → Option HMap
 | [], M => some M
 | j :: r, M => match ops[j]? with
   | some o => match l[j]? with
     | some t => match Yr P G call ops n o t σ j M with
       | some M' => X6 P G call ops n l σ r M'
       | none => none
     | none => none
   | none => none
def Og (P : Program) (G : List (Nat × AVal)) (call : CallF) (ops : Array Oper) (p : SP) (n : Nat) (l : List Tr) : List Nat → HMap → Option HMap
 | [], M => some M
 | σ :: r, M => match X6 P G call ops n l σ (p.steps σ) M with
   | some M' => Og P G call ops p n l r M'
   | none => none
def V0 (P : Program) (G : List (Nat × AVal)) (call : CallF) (ops : Array Oper) (p : SP) (n : Nat) (M : HMap) (o : Oper) (t : Tr) (j σ : Nat) : Bool :=
 cond (Nat.beq σ t.σ) true (cond (p.mayB σ j) (match lkH σ M with
  | some H => match Lm P G call ops o ⟨t.env, H, n⟩ with
    | some (v, _) => Gx v t.v
    | none => false
  | none => false) true)
def Ko (P : Program) (G : List (Nat × AVal)) (call : CallF) (ops : Array Oper) (p : SP) (n : Nat) (M : HMap) : List Oper → List Tr → Nat → Bool
 | o :: r, t :: l, j => cond (cond (Nat.beq (p.kind.getD j 0) 1) (p.states.all fun σ => V0 P G call ops p n M o t j σ) true) (Ko P G call ops p n M r l (j + 1)) false
 | _, _, _ => true
def Xo (P : Program) (G : List (Nat × AVal)) (call : CallF) (ops : Array Oper) (s : St) : Option St :=
 cond (H8 P ops (C3 P ops.toList)) (match Oy P G call ops (C3 P ops.toList) s.n ops.toList 0 s.env 0 s.H [(0, s.H)] with
  | some (l, M, e, _) => match Og P G call ops (C3 P ops.toList) s.n l (C3 P ops.toList).states M with
    | some M' => cond (Ko P G call ops (C3 P ops.toList) s.n M' ops.toList l 0) (match lkH (C3 P ops.toList).fin M' with
      | some H => some ⟨e, H, s.n⟩
      | none => none) none
    | none => none
  | none => none) none
theorem Y7 (a b i : Nat) : tb (Nat.lor a b) i = (tb a i || tb b i) := Nat.testBit_or a b i
theorem A2g (e i : Nat) : tb (Nat.shiftLeft 1 e) i = decide (e = i) := by
 show ((1 : Nat) <<< e).testBit i = _
 rw [Nat.shiftLeft_eq, Nat.one_mul, Nat.testBit_two_pow]
theorem Ov {masks : List Nat} {o : Oper} {i : Nat} (h : tb (M9 masks o) i = true) : ∃ e ∈ o.after, Region.binds .any e = true ∧ (e.on = i ∨ tb (masks.getD e.on 0) i = true) := by
 have key : ∀ (l : List Edge) (m : Nat), tb (l.foldl (fun m e => cond (Region.binds .any e) (Nat.lor (Nat.lor m (Nat.shiftLeft 1 e.on)) (masks.getD e.on 0)) m) m) i = true →
  tb m i = true ∨ ∃ e ∈ l, Region.binds .any e = true ∧ (e.on = i ∨ tb (masks.getD e.on 0) i = true) := by
  intro l
  induction l with
  | nil => intro m h; exact .inl h
  | cons e l ih =>
    intro m h
    simp only [List.foldl_cons] at h
    rcases ih _ h with h' | ⟨e', he', h'⟩
    · cases hb : Region.binds .any e with
      | false => rw [hb, cond_false] at h'; exact .inl h'
      | true =>
        rw [hb, cond_true, Y7, Y7, A2g, Bool.or_eq_true, Bool.or_eq_true, dTe] at h'
        rcases h' with (h' | h') | h'
        · exact .inl h'
        · exact .inr ⟨e, by simp, hb, .inl h'⟩
        · exact .inr ⟨e, by simp, hb, .inr h'⟩
    · exact .inr ⟨e', by simp [he'], h'⟩
 rcases key o.after.toList 0 h with h' | ⟨e, he, h'⟩
 · simp [tb] at h'
 · exact ⟨e, by simpa using he, h'⟩
theorem Fj {x : Nat} : ∀ {l : List Nat}, Ye x l = true → x ∈ l
 | [], h => by cases h
 | y :: r, h => by
   simp only [Ye] at h
   cases hx : Nat.beq x y with
   | true => rw [nBq hx]; simp
   | false => rw [hx] at h; exact List.mem_cons_of_mem _ (Fj h)
section
variable {P : Program} {W0 : World} {G : List (Nat × AVal)} {call : CallF} {ops : Array Oper}
theorem J7 (hc : Do P W0 call) {o : Oper} {s : St} {v : AVal} {H' : Hz} (h : Lm P G call ops o s = some (v, H')) : D7 P W0 G ops o s fun v' H'' => v' = v ∧ H'' = H' := by
 unfold Lm at h
 unfold D7
 cases hg : Bq ops s o.guard with
 | none => rw [hg] at h; cases h
 | some b =>
   rw [hg] at h
   cases b with
   | false => simp only [iS, iP] at h; exact ⟨h.1, h.2⟩
   | true =>
     simp only at h ⊢
     cases hop : Ah P o.op with
     | none => rw [hop] at h; cases h
     | some op =>
       rw [hop] at h
       simp only at h ⊢
       cases hr : aop G s op with
       | none => rw [hr] at h; cases h
       | some r =>
         rw [hr] at h
         cases r with
         | val v1 H1 side =>
           simp only [Vz] at h
           cases hsd : Lq side with
           | false => rw [hsd] at h; cases h
           | true =>
             rw [hsd, cond_true] at h
             simp only [iS, iP] at h
             exact ⟨Nh hsd, h.1, h.2⟩
         | skip H1 =>
           simp only [Vz, iS, iP] at h
           exact ⟨h.1, h.2⟩
         | call f args => exact ⟨v, H', hc _ _ _ _ _ h, rfl, rfl⟩
theorem Oi {o : Oper} (hk : Br P o ≤ 1) {e : Env} {H : Hz} {n : Nat} {v : AVal} {H' : Hz} (h : Lm P G call ops o ⟨e, H, n⟩ = some (v, H')) : H' = H := by
 unfold Lm at h
 cases hg : Bq ops ⟨e, H, n⟩ o.guard with
 | none => rw [hg] at h; cases h
 | some b =>
   rw [hg] at h
   cases b with
   | false => simp only [iS, iP] at h; exact h.2.symm
   | true =>
     simp only at h
     unfold Br at hk
     cases hop : Ah P o.op with
     | none => rw [hop] at h; cases h
     | some op =>
       rw [hop] at h hk
       simp only at h hk
       cases hr : aop G ⟨e, H, n⟩ op with
       | none => rw [hr] at h; cases h
       | some r =>
         obtain ⟨v1, side, rfl⟩ := Hv (by omega) hr
         rw [hr] at h
         simp only [Vz] at h
         cases hsd : Lq side with
         | false => rw [hsd] at h; cases h
         | true =>
           rw [hsd, cond_true] at h
           simp only [iS, iP] at h
           exact h.2.symm
theorem Yo {o : Oper} (hk : Br P o = 0) {e : Env} {H : Hz} {n : Nat} {v : AVal} {H' : Hz} (h : Lm P G call ops o ⟨e, H, n⟩ = some (v, H')) (H2 : Hz) : Lm P G call ops o ⟨e, H2, n⟩ = some (v, H2) := by
 have hH := Oi (by omega) h
 subst hH
 unfold Lm at h ⊢
 rw [← P7 (ops := ops) (e := e) (e' := e) (H := H') (H' := H2) (fun _ _ => rfl)]
 cases hg : Bq ops ⟨e, H', n⟩ o.guard with
 | none => rw [hg] at h; cases h
 | some b =>
   rw [hg] at h
   cases b with
   | false => simp only [iS, iP] at h ⊢; exact ⟨h.1, trivial⟩
   | true =>
     simp only at h ⊢
     unfold Br at hk
     cases hop : Ah P o.op with
     | none => rw [hop] at h; cases h
     | some op =>
       rw [hop] at h hk
       simp only at h hk ⊢
       cases hr : aop G ⟨e, H', n⟩ op with
       | none => rw [hr] at h; cases h
       | some r =>
         obtain ⟨v1, side, rfl⟩ := Hv (by omega) hr
         have h0 := R5 (G := G) (e := e) (H := H') (H' := H2) (n := n) hk
         rw [hr] at h0 h
         cases hr2 : aop G ⟨e, H2, n⟩ op with
         | none => rw [hr2] at h0; cases h0
         | some r2 =>
           obtain ⟨v2, Py, rfl⟩ := Hv (by omega) hr2
           rw [hr2] at h0
           simp only [P3, iS, iP] at h0
           obtain ⟨h1, h2⟩ := h0
           subst h1; subst h2
           simp only [Vz] at h ⊢
           cases hsd : Lq side with
           | false => rw [hsd] at h; cases h
           | true =>
             rw [hsd, cond_true] at h
             simp only [cond_true, iS, iP] at h ⊢
             exact ⟨h.1, trivial⟩
def Ef (M M' : HMap) : Prop := ∀ σ H, lkH σ M = some H → lkH σ M' = some H
theorem Ef.cons {M : HMap} {σ : Nat} {H : Hz} (h : lkH σ M = none) : Ef M ((σ, H) :: M) := by
 intro σ' H' h'
 simp only [lkH]
 cases hb : Nat.beq σ' σ with
 | true => rw [nBq hb, h] at h'; cases h'
 | false => exact h'
theorem C4 (σ : Nat) (H : Hz) (M : HMap) : lkH σ ((σ, H) :: M) = some H := by
 simp only [lkH]
 rw [show Nat.beq σ σ = true from Nat.beq_refl σ, cond_true]
def Bh (tr : List Tr) (ef : Env) (k : Nat) : Env := (tr[k]?.map Tr.env).getD ef
theorem Oq {p : SP} {n : Nat} : ∀ (l : List Oper) (j : Nat) (e : Env) (σ : Nat) (H : Hz) (M : HMap) {tr : List Tr} {Mf : HMap} {ef : Env} {Hf : Hz}, Oy P G call ops p n l j e σ H M = some (tr, Mf, ef, Hf) → lkH σ M = some H →
 Ef M Mf ∧ tr.length = l.length ∧ Bh tr ef 0 = e ∧
 ∀ k o, l[k]? = some o → ∃ t Hk H', tr[k]? = some t ∧ Et o.dst n = true ∧ lkH t.σ Mf = some Hk ∧ Lm P G call ops o ⟨t.env, Hk, n⟩ = some (t.v, H') ∧
  (p.eff (j + k) = true → lkH (SP.nxt t.σ (j + k)) Mf = some H') ∧ Bh tr ef (k + 1) = Fa o.dst t.v t.env
 | [], j, e, σ, H, M, tr, Mf, ef, Hf, h, hl => by
   simp only [Oy, iS, iP] at h
   obtain ⟨rfl, rfl, rfl, rfl⟩ := h
   exact ⟨fun _ _ h => h, rfl, rfl, fun k o hk => by simp at hk⟩
 | o :: r, j, e, σ, H, M, tr, Mf, ef, Hf, h, hl => by
   simp only [Oy] at h
   split at h
   · rename_i hd
     split at h
     · rename_i v H' hv
       split at h
       · rename_i heff
         split at h
         · rename_i hnone
           split at h
           · rename_i l' rest hrest
             simp only [iS, iP] at h
             obtain ⟨rfl, h⟩ := h
             subst h
             obtain ⟨h1, h2, h3, h4⟩ := Oq r (j + 1) _ _ H' _ hrest (C4 _ _ _)
             have hext : Ef M Mf := fun σ' H'' h' => h1 _ _ (Ef.cons hnone _ _ h')
             refine ⟨hext, by simp [h2], rfl, fun k o' hk => ?_⟩
             cases k with
             | zero =>
               simp at hk; subst hk
               exact ⟨_, H, H', rfl, hd, hext _ _ hl, hv, fun _ => h1 _ _ (C4 _ _ _), by simpa [Bh] using h3⟩
             | succ k =>
               obtain ⟨t, Hk, Hk', a1, a2, a3, a4, a5, a6⟩ := h4 k o' (by simpa using hk)
               exact ⟨t, Hk, Hk', by simpa using a1, a2, a3, a4, by rw [show j + (k + 1) = j + 1 + k by omega]; exact a5, by simpa [Bh] using a6⟩
           · cases h
         · cases h
       · rename_i heff
         split at h
         · rename_i l' rest hrest
           simp only [iS, iP] at h
           obtain ⟨rfl, h⟩ := h
           subst h
           obtain ⟨h1, h2, h3, h4⟩ := Oq r (j + 1) _ _ H _ hrest hl
           refine ⟨h1, by simp [h2], rfl, fun k o' hk => ?_⟩
           cases k with
           | zero =>
             simp at hk; subst hk
             exact ⟨_, H, H', rfl, hd, h1 _ _ hl, hv, fun he => absurd he (by rw [Nat.add_zero, heff]; simp), by simpa [Bh] using h3⟩
           | succ k =>
             obtain ⟨t, Hk, Hk', a1, a2, a3, a4, a5, a6⟩ := h4 k o' (by simpa using hk)
             exact ⟨t, Hk, Hk', by simpa using a1, a2, a3, a4, by rw [show j + (k + 1) = j + 1 + k by omega]; exact a5, by simpa [Bh] using a6⟩
         · cases h
     · cases h
   · cases h
theorem A0r {n : Nat} {o : Oper} {t : Tr} {σ j : Nat} {M M' : HMap} (h : Yr P G call ops n o t σ j M = some M') :
 Ef M M' ∧ (σ = t.σ ∨ ∃ H H', lkH σ M' = some H ∧ Lm P G call ops o ⟨t.env, H, n⟩ = some (t.v, H') ∧ lkH (SP.nxt σ j) M' = some H') := by
 unfold Yr at h
 cases hb : Nat.beq σ t.σ with
 | true => rw [hb, cond_true] at h; injection h with h; subst h; exact ⟨fun _ _ h => h, .inl (nBq hb)⟩
 | false =>
   rw [hb, cond_false] at h
   split at h
   · rename_i H hH
     split at h
     · rename_i v H' hv
       cases hav : Gx v t.v with
       | false => rw [hav] at h; cases h
       | true =>
         have := Oh _ _ hav; subst this
         rw [hav, cond_true] at h
         split at h
         · rename_i H'' hH''
           cases hhe : A16 H' H'' with
           | false => rw [hhe] at h; cases h
           | true =>
             have := Zz hhe; subst this
             rw [hhe, cond_true] at h
             injection h with h; subst h
             exact ⟨fun _ _ h => h, .inr ⟨H, H', hH, hv, hH''⟩⟩
         · rename_i hnone
           injection h with h; subst h
           exact ⟨Ef.cons hnone, .inr ⟨H, H', Ef.cons hnone _ _ hH, hv, C4 _ _ _⟩⟩
     · cases h
   · cases h
theorem Xk {n : Nat} {l : List Tr} {σ : Nat} : ∀ {js : List Nat} {M M' : HMap}, X6 P G call ops n l σ js M = some M' →
 Ef M M' ∧ ∀ j ∈ js, ∃ o t, ops[j]? = some o ∧ l[j]? = some t ∧ (σ = t.σ ∨ ∃ H H', lkH σ M' = some H ∧ Lm P G call ops o ⟨t.env, H, n⟩ = some (t.v, H') ∧ lkH (SP.nxt σ j) M' = some H')
 | [], M, M', h => by simp only [X6, iS] at h; subst h; exact ⟨fun _ _ h => h, fun j hj => by cases hj⟩
 | j :: r, M, M', h => by
   simp only [X6] at h
   split at h
   · rename_i o ho
     split at h
     · rename_i t ht
       split at h
       · rename_i M1 h1
         obtain ⟨a1, a2⟩ := A0r h1
         obtain ⟨b1, b2⟩ := Xk h
         refine ⟨fun σ H hh => b1 _ _ (a1 _ _ hh), fun k hk => ?_⟩
         rcases List.mem_cons.1 hk with rfl | hk
         · refine ⟨o, t, ho, ht, a2.imp id ?_⟩
           rintro ⟨H, H', c1, c2, c3⟩
           exact ⟨H, H', b1 _ _ c1, c2, b1 _ _ c3⟩
         · exact b2 k hk
       · cases h
     · cases h
   · cases h
theorem Ru {p : SP} {n : Nat} {l : List Tr} : ∀ {ss : List Nat} {M M' : HMap}, Og P G call ops p n l ss M = some M' →
 Ef M M' ∧ ∀ σ ∈ ss, ∀ j ∈ p.steps σ, ∃ o t, ops[j]? = some o ∧ l[j]? = some t ∧ (σ = t.σ ∨ ∃ H H', lkH σ M' = some H ∧ Lm P G call ops o ⟨t.env, H, n⟩ = some (t.v, H') ∧ lkH (SP.nxt σ j) M' = some H')
 | [], M, M', h => by simp only [Og, iS] at h; subst h; exact ⟨fun _ _ h => h, fun j hj => by cases hj⟩
 | σ :: r, M, M', h => by
   simp only [Og] at h
   split at h
   · rename_i M1 h1
     obtain ⟨a1, a2⟩ := Xk h1
     obtain ⟨b1, b2⟩ := Ru h
     refine ⟨fun σ H hh => b1 _ _ (a1 _ _ hh), fun τ hτ j hj => ?_⟩
     rcases List.mem_cons.1 hτ with rfl | hτ
     · obtain ⟨o, t, c1, c2, c3⟩ := a2 j hj
       refine ⟨o, t, c1, c2, c3.imp id ?_⟩
       rintro ⟨H, H', c1, c2, c3⟩
       exact ⟨H, H', b1 _ _ c1, c2, b1 _ _ c3⟩
     · exact b2 τ hτ j hj
   · cases h
theorem P8 {p : SP} {n : Nat} {M : HMap} : ∀ {l : List Oper} {tr : List Tr} {j : Nat}, Ko P G call ops p n M l tr j = true → ∀ k o t, l[k]? = some o → tr[k]? = some t → p.kind.getD (j + k) 0 = 1 →
 ∀ σ ∈ p.states, p.mayB σ (j + k) = true → σ = t.σ ∨ ∃ H H', lkH σ M = some H ∧ Lm P G call ops o ⟨t.env, H, n⟩ = some (t.v, H')
 | [], tr, j, _, k, o, t, h1, _, _ => by simp at h1
 | _ :: _, [], j, _, k, o, t, _, h2, _ => by simp at h2
 | o :: r, t :: l, j, h, k, o', t', h1, h2, hk => by
   simp only [Ko] at h
   cases hc : (cond (Nat.beq (p.kind.getD j 0) 1) (p.states.all fun σ => V0 P G call ops p n M o t j σ) true) with
   | false => rw [hc] at h; cases h
   | true =>
     rw [hc, cond_true] at h
     cases k with
     | zero =>
       simp at h1 h2; subst h1; subst h2
       rw [Nat.add_zero] at hk ⊢
       rw [hk] at hc
       simp only [Nat.beq_refl, cond_true] at hc
       intro σ hσ hm
       have := List.all_eq_true.1 hc σ hσ
       unfold V0 at this
       cases hb : Nat.beq σ t.σ with
       | true => exact .inl (nBq hb)
       | false =>
         rw [hb, cond_false, hm, cond_true] at this
         split at this
         · rename_i H hH
           split at this
           · rename_i v H' hv
             have := Oh _ _ this; subst this
             exact .inr ⟨H, H', hH, hv⟩
           · cases this
         · cases this
     | succ k =>
       have := P8 h k o' t' (by simpa using h1) (by simpa using h2) (by rw [show j + 1 + k = j + (k + 1) by omega]; exact hk)
       rw [show j + (k + 1) = j + 1 + k by omega]
       exact this
theorem Rw {p : SP} {N σ j : Nat} (hN : p.n = N) : p.mayB σ j = true ↔ (∀ i, i < N → p.eff i = true → p.msk j i = true → tb σ i = true) ∧ ∀ i, i < N → p.eff i = true → p.msk i j = true → tb σ i = false := by
 unfold SP.mayB
 rw [lAt]
 constructor
 · intro h
   refine ⟨fun i i1 i2 i3 => ?_, fun i i1 i2 i3 => ?_⟩
   · have := h i (List.mem_range.2 (by omega))
     rw [i2, cond_true, i3, cond_true, bAt] at this
     exact this.1
   · have := h i (List.mem_range.2 (by omega))
     rw [i2, cond_true, i3, cond_true, bAt] at this
     simpa using this.2
 · rintro ⟨h1, h2⟩ i hi
   have hi' := List.mem_range.1 hi
   cases he : p.eff i with
   | false => rfl
   | true =>
     rw [cond_true, bAt]
     refine ⟨?_, ?_⟩
     · cases hm : p.msk j i with
       | false => rfl
       | true => exact h1 i (by omega) he hm
     · cases hm : p.msk i j with
       | false => rfl
       | true => rw [cond_true, h2 i (by omega) he hm]; rfl
theorem Vs (σ j i : Nat) : tb (SP.nxt σ j) i = true ↔ tb σ i = true ∨ i = j := by
 unfold SP.nxt
 rw [Y7, A2g, Bool.or_eq_true, dTe]
 exact ⟨fun h => h.imp id Eq.symm, fun h => h.imp id Eq.symm⟩
theorem A2f (hc : Do P W0 call) {s s' : St} (h : Xo P G call ops s = some s') : ∃ p : Plan, Iw P W0 G ops s p ∧ s' = ⟨p.env ops.size, p.Hs p.fin, s.n⟩ := by
 unfold Xo at h
 generalize hsp : C3 P ops.toList = sp at h
 cases hok : H8 P ops sp with
 | false => rw [hok] at h; cases h
 | true =>
   rw [hok, cond_true] at h
   split at h
   · rename_i l M ef Hf hseq
     split at h
     · rename_i M' hloud
       cases hq : Ko P G call ops sp s.n M' ops.toList l 0 with
       | false => rw [hq] at h; cases h
       | true =>
         rw [hq, cond_true] at h
         split at h
         · rename_i Hfin hfin
           injection h with h
           subst h
           simp only [H8, bAt] at hok
           obtain ⟨⟨⟨⟨k1, k2⟩, k3⟩, k4⟩, k5⟩ := hok
           have hN : sp.n = ops.size := nBq k1
           have hat : ∀ (j : Nat) (o : Oper), ops[j]? = some o → Q7 P ops sp j o = true := by
            intro j o ho
            have := List.all_eq_true.1 k5 j (List.mem_range.2 (Array.getElem?_eq_some_iff.1 ho).1)
            rw [ho] at this
            exact this
           have hat1 : ∀ (j : Nat) (o : Oper), ops[j]? = some o → (∀ e ∈ o.after, Region.binds .any e = true → e.on < j) ∧ sp.mask.getD j 0 = M9 sp.mask o ∧ sp.kind.getD j 0 = Br P o ∧
            ∀ (i : Nat) (oi : Oper) (d : Nat), ops[i]? = some oi → oi.dst = some d → (i = j ∨ o.dst ≠ some d) ∧ (d ∈ reads P ops o → sp.msk j i = true ∨ sp.msk i j = true) := by
            intro j o ho
            have := hat j o ho
            simp only [Q7, bAt] at this
            obtain ⟨⟨⟨a1, a2⟩, a3⟩, a4⟩ := this
            refine ⟨fun e he hb => ?_, nBq a2, nBq a3, fun i oi d hi hd => ?_⟩
            · have := List.all_eq_true.1 a1 e (by simpa using he)
              rw [hb, cond_true, Nat.blt_eq] at this
              exact this
            · have := List.all_eq_true.1 a4 i (List.mem_range.2 (by rw [hN]; exact (Array.getElem?_eq_some_iff.1 hi).1))
              rw [hi] at this
              simp only [Option.bind_some, hd, bAt, Bool.or_eq_true] at this
              obtain ⟨b1, b2⟩ := this
              refine ⟨?_, fun hr => ?_⟩
              · rcases b1 with b1 | b1
                · exact .inl (nBq b1)
                · refine .inr fun hod => ?_
                  unfold A04 at b1
                  rw [hod] at b1
                  simp at b1
              · have := List.all_eq_true.1 b2 d hr
                rw [show Nat.beq d d = true from Nat.beq_refl d, cond_true, Bool.or_eq_true] at this
                exact this
           obtain ⟨s1, s2, s3, s4⟩ := Oq ops.toList 0 s.env 0 s.H [(0, s.H)] hseq (C4 _ _ _)
           obtain ⟨l1, l2⟩ := Ru hloud
           have q1 := P8 hq
           have hclosed : ∀ σ ∈ sp.states, ∀ j ∈ sp.steps σ, SP.nxt σ j ∈ sp.states := fun σ hσ j hj => Fj (List.all_eq_true.1 (List.all_eq_true.1 k3 σ hσ) j hj)
           have hget : ∀ (j : Nat) (o : Oper), ops[j]? = some o → ∃ t Hk H', l[j]? = some t ∧ Et o.dst s.n = true ∧ lkH t.σ M' = some Hk ∧ Lm P G call ops o ⟨t.env, Hk, s.n⟩ = some (t.v, H') ∧ (sp.eff j = true → lkH (SP.nxt t.σ j) M' = some H') ∧ Bh l ef (j + 1) = Fa o.dst t.v t.env := by
            intro j o ho
            obtain ⟨t, Hk, H', a1, a2, a3, a4, a5, a6⟩ := s4 j o (by simpa using ho)
            refine ⟨t, Hk, H', a1, a2, l1 _ _ a3, a4, fun he => ?_, a6⟩
            have := a5 (by rw [Nat.zero_add]; exact he)
            rw [Nat.zero_add] at this
            exact l1 _ _ this
           have hsteps : ∀ σ j, j < ops.size → sp.eff j = true → tb σ j = false → sp.mayB σ j = true → j ∈ sp.steps σ := by
            intro σ j h1 h2 h3 h4
            unfold SP.steps
            rw [List.mem_filter, List.mem_range, h2, h3, h4]
            exact ⟨by omega, rfl⟩
           refine ⟨{ v := fun j => (l[j]?.map Tr.v).getD .nilIf, eff := sp.eff, ok := fun σ => σ ∈ sp.states, dn := tb, nxt := SP.nxt, fin := sp.fin, Hs := fun σ => (lkH σ M').getD [], mask := sp.msk, env := Bh l ef }, ?_, ?_⟩
           · have hmay : ∀ σ j, Plan.may { v := fun j => (l[j]?.map Tr.v).getD .nilIf, eff := sp.eff, ok := fun σ => σ ∈ sp.states, dn := tb, nxt := SP.nxt, fin := sp.fin, Hs := fun σ => (lkH σ M').getD [], mask := sp.msk, env := Bh l ef } ops.size σ j → sp.mayB σ j = true := fun σ j hm => (Rw hN).2 hm
             refine ⟨fun j o ho => (hat1 j o ho).1, fun j o i ho hm => ?_, fun i j oi oj t hi hj h1 h2 => ?_, fun j oj t hj ht i oi hi hti => ((hat1 j oj hj).2.2.2 i oi t hi hti).2 ht, s3, fun i o ho => ?_, Fj k2, fun i _ _ => Nat.zero_testBit i, ?_, fun j o ho hef σ hσ hm => ?_, fun j o ho hef σ hσ hdn hm => ?_, fun σ hσ hall => ?_, fun j o ho => ?_⟩
             · have h2 := (hat1 j o ho).2.1
               have hm' : tb (sp.mask.getD j 0) i = true := hm
               rw [h2] at hm'
               exact Ov hm'
             · rcases ((hat1 j oj hj).2.2.2 i oi t hi h1).1 with h' | h'
               · exact h'
               · exact absurd h2 h'
             · obtain ⟨t, Hk, H', a1, a2, a3, a4, a5, a6⟩ := hget i o ho
               simp only [a1, Option.map_some, Option.getD_some]
               rw [a6]
               simp [Bh, a1]
             · simp only
               rw [l1 _ _ (s1 _ _ (C4 _ _ _))]
               rfl
             ·
              obtain ⟨t, Hk, H', a1, a2, a3, a4, a5, a6⟩ := hget j o ho
              have hkk := (hat1 j o ho).2.2.1
              have hle : Br P o ≤ 1 := by
               have : ¬ (2 ≤ Br P o) := fun h2 => by
                have h3 : sp.eff j = true := by unfold SP.eff; rw [hkk]; rw [Nat.ble_eq]; exact h2
                have h4 : sp.eff j = false := hef
                rw [h4] at h3; cases h3
               omega
              have henv : Bh l ef j = t.env := by simp [Bh, a1]
              have hv : ((l[j]?.map Tr.v).getD .nilIf) = t.v := by simp [a1]
              show D7 P W0 G ops o ⟨Bh l ef j, (lkH σ M').getD [], s.n⟩ fun v' H' => v' = (l[j]?.map Tr.v).getD .nilIf ∧ H' = (lkH σ M').getD []
              rw [henv, hv]
              have hk0 : Br P o = 0 ∨ Br P o = 1 := by omega
              rcases hk0 with hk0 | hk1
              · exact J7 hc (Yo hk0 a4 _)
              · rcases q1 j o t (by simpa using ho) a1 (by rw [Nat.zero_add, hkk]; exact hk1) σ hσ (by rw [Nat.zero_add]; exact hmay σ j hm) with rfl | ⟨H2, H2', c1, c2⟩
                · rw [a3]
                  have hH := Oi (by omega) a4
                  subst hH
                  exact J7 hc a4
                · rw [c1]
                  have hH := Oi (by omega) c2
                  subst hH
                  exact J7 hc c2
             ·
              have hjs := (Array.getElem?_eq_some_iff.1 ho).1
              have hst := hsteps σ j hjs hef hdn (hmay σ j hm)
              refine ⟨?_, hclosed σ hσ j hst, fun i _ _ => Vs σ j i⟩
              obtain ⟨t, Hk, H', a1, a2, a3, a4, a5, a6⟩ := hget j o ho
              have henv : Bh l ef j = t.env := by simp [Bh, a1]
              have hv : ((l[j]?.map Tr.v).getD .nilIf) = t.v := by simp [a1]
              show D7 P W0 G ops o ⟨Bh l ef j, (lkH σ M').getD [], s.n⟩ fun v' H' => v' = (l[j]?.map Tr.v).getD .nilIf ∧ H' = (lkH (SP.nxt σ j) M').getD []
              rw [henv, hv]
              obtain ⟨o2, t2, b1, b2, b3⟩ := l2 σ hσ j hst
              rw [ho] at b1; injection b1 with b1; subst b1
              rw [a1] at b2; injection b2 with b2; subst b2
              rcases b3 with rfl | ⟨H2, H2', c1, c2, c3⟩
              · rw [a3, a5 hef]
                exact J7 hc a4
              · rw [c1, c3]
                exact J7 hc c2
             · have : sp.allIn σ = true := by
                unfold SP.allIn
                rw [lAt]
                intro i hi
                have hi' := List.mem_range.1 hi
                cases he : sp.eff i with
                | false => rfl
                | true => exact hall i (by omega) he
               have h4 := List.all_eq_true.1 k4 σ hσ
               rw [this, cond_true] at h4
               rw [nBq h4]
             · obtain ⟨t, Hk, H', a1, a2, _⟩ := hget j o ho
               exact a2
           · simp only
             rw [hfin]
             have hlen : l[ops.size]? = none := by
              rw [List.getElem?_eq_none_iff, s2]
              simp
             simp [Bh, hlen]
         · cases h
     · cases h
   · cases h
theorem A2j (hm : P.follows .mixedOrders = true) (hg : GOK W0 G) (hc : Do P W0 call) : Z2 P W0 (fun ops s => Xo P G call ops s) := by
 intro id ops s s' h K hk
 obtain ⟨p, hp, rfl⟩ := A2f hc h
 exact Ex.draw hm hg hp hk
end
structure AOper where
 dst : Option Nat
 guard : Option (Nat × Bool)
 op : AOp
inductive ACode where
 | skip
 | ops (l : List AOper)
 | draw (l : List AOper) (b : Bool := false)
 | drawC (l : List AOper) (p : SP)
 | seq (a b : ACode)
 | cond (c : AOpd) (x y : ACode)
 | block (id : Nat) (c : ACode)
 | loop (c : ACode)
 | exit (id : Nat)
 | ret
 | stuck
def By (ops : Array Oper) : Option (Nat × Bool) → Option (Option (Nat × Bool))
 | none => some none
 | some (j, b) => match (ops[j]?).bind (·.dst) with
   | some d => some (some (d, b))
   | none => none
def B6 (P : Program) (ops : Array Oper) (o : Oper) : Option AOper :=
 match By ops o.guard with
 | some g => match Ah P o.op with
   | some op => some ⟨o.dst, g, op⟩
   | none => none
 | none => none
def Aw (P : Program) (ops : Array Oper) : List Oper → Option (List AOper)
 | [] => some []
 | o :: r => match B6 P ops o with
   | some a => match Aw P ops r with
     | some l => some (a :: l)
     | none => none
   | none => none
def useC (l : List AOper) (p : SP) : Bool := !(To p) && (p.states.all fun x => Nat.ble (p.steps x).length 1) && l.any fun a => match a.op with
 | .call _ _ => false
 | op => Nat.ble 2 op.kind
def Bc (P : Program) : Code → Option ACode
 | .skip => some .skip
 | .region _ ops d => match Aw P ops ops.toList with
   | some l => cond d (cond (H8 P ops (C3 P ops.toList)) (some (cond (useC l (C3 P ops.toList)) (.drawC l (C3 P ops.toList)) (.draw l (To (C3 P ops.toList))))) (some .stuck)) (some (.ops l))
   | none => some .stuck
 | .seq x y => match Bc P x with
   | some a => match Bc P y with
     | some b => some (.seq a b)
     | none => none
   | none => none
 | .cond c x y => match Aa c with
   | some c' => match Bc P x with
     | some a => match Bc P y with
       | some b => some (.cond c' a b)
       | none => none
     | none => none
   | none => some .stuck
 | .block id c => match Bc P c with
   | some a => some (.block id a)
   | none => none
 | .loop c => match Bc P c with
   | some a => some (.loop a)
   | none => none
 | .exit id => some (.exit id)
 | .ret => some .ret
 | _ => some .stuck
section
variable (P : Program) (W0 : World) (G : List (Nat × AVal))
def Jt (o : AOper) (s : St) (K : St → Prop) : Prop :=
 match o.guard with
 | none => H7 P W0 s.H (aop G s o.op) fun v H' => Ou s o.dst v H' K
 | some (d, want) => match s.env.get d with
   | some (.bool b) => cond (cond b want (not want)) (H7 P W0 s.H (aop G s o.op) fun v H' => Ou s o.dst v H' K) (Ou s o.dst (.tup []) s.H K)
   | some (.tup []) => Ou s o.dst (.tup []) s.H K
   | _ => False
def Ea : List AOper → St → (St → Prop) → Prop
 | [], s, K => K s
 | o :: r, s, K => Jt P W0 G o s fun s' => Ea r s' K
end
section
variable {P : Program} {W0 : World} {G : List (Nat × AVal)}
theorem Sz {H : Hz} {r : Option ARes} {K K' : AVal → Hz → Prop} (hk : ∀ v H', K v H' → K' v H') (h : H7 P W0 H r K) : H7 P W0 H r K' := by
 unfold H7 at h ⊢
 split at h
 · exact ⟨h.1, hk _ _ h.2⟩
 · exact hk _ _ h
 · obtain ⟨v, H', h1, h2⟩ := h; exact ⟨v, H', h1, hk _ _ h2⟩
 · exact h
theorem Uf {s : St} {dst : Option Nat} {v : AVal} {H : Hz} {K K' : St → Prop} (hk : ∀ s, K s → K' s) (h : Ou s dst v H K) : Ou s dst v H K' := by
 unfold Ou at h ⊢
 split at h
 · exact hk _ h
 · exact ⟨h.1, hk _ h.2⟩
theorem Yq {ops : Array Oper} {o : Oper} {s : St} {K K' : St → Prop} (hk : ∀ s, K s → K' s) (h : Gu P W0 G ops o s K) : Gu P W0 G ops o s K' := by
 unfold Gu at h ⊢
 split at h
 · split at h
   · exact Sz (fun v H' => Uf hk) h
   · exact h
 · exact Uf hk h
 · exact h
theorem Qc {ops : Array Oper} {o : Oper} {a : AOper} (hc : B6 P ops o = some a) {s : St} {K : St → Prop} (h : Jt P W0 G a s K) : Gu P W0 G ops o s K := by
 unfold B6 at hc
 cases hg : By ops o.guard with
 | none => rw [hg] at hc; cases hc
 | some g =>
   rw [hg] at hc
   simp only at hc
   cases hop : Ah P o.op with
   | none => rw [hop] at hc; cases hc
   | some op =>
     rw [hop] at hc
     injection hc with hc
     subst hc
     unfold Gu
     cases hgd : o.guard with
     | none =>
       rw [hgd] at hg
       simp only [By, iS] at hg
       subst hg
       simp only [Bq, hop]
       exact h
     | some gw =>
       obtain ⟨j, want⟩ := gw
       rw [hgd] at hg
       simp only [By] at hg
       cases hd : (ops[j]?).bind (·.dst) with
       | none => rw [hd] at hg; cases hg
       | some d =>
         rw [hd] at hg
         simp only [iS] at hg
         subst hg
         simp only [Bq, hd]
         simp only [Jt] at h
         split at h
         · rename_i b hb
           rw [hb]
           simp only
           cases hw : cond b want (not want) with
           | true => rw [hw] at h; simp only [hop]; exact h
           | false => rw [hw] at h; exact h
         · rename_i hb
           rw [hb]
           exact h
         · exact h.elim
theorem X3 {ops : Array Oper} : ∀ {l : List Oper} {az : List AOper}, Aw P ops l = some az → ∀ {s : St} {K : St → Prop}, Ea P W0 G az s K → K1 P W0 G ops l s K
 | [], az, hc, s, K, h => by
   simp only [Aw, iS] at hc
   subst hc
   exact h
 | o :: r, az, hc, s, K, h => by
   simp only [Aw] at hc
   cases ho : B6 P ops o with
   | none => rw [ho] at hc; cases hc
   | some a =>
     rw [ho] at hc
     simp only at hc
     cases hr : Aw P ops r with
     | none => rw [hr] at hc; cases hc
     | some l =>
       rw [hr] at hc
       injection hc with hc
       subst hc
       simp only [Ea] at h
       simp only [K1]
       exact Yq (fun s' h' => X3 hr h') (Qc ho h)
end
def ExA (P : Program) (W0 : World) (a : ACode) (s : St) (K : Am → St → Prop) : Prop := ∀ c, Bc P c = some a → Ex P W0 c s K
structure Gr (P : Program) (W0 : World) (G : List (Nat × AVal)) : Prop where
 g : GOK W0 G
 mixed : P.follows .mixedOrders = true
section
variable {P : Program} {W0 : World} {G : List (Nat × AVal)} {s : St} {K : Am → St → Prop}
theorem ExA.mono {a : ACode} {K' : Am → St → Prop} (h : ExA P W0 a s K) (hk : ∀ e s', K e s' → K' e s') : ExA P W0 a s K' := fun c hc => (h c hc).mono hk
theorem C2 {id : Nat} {ops : Array Oper} {d : Bool} {a : ACode} (h : Bc P (.region id ops d) = some a) : a = .stuck ∨ ∃ l, Aw P ops ops.toList = some l ∧ ((d = false ∧ a = .ops l) ∨ (d = true ∧ H8 P ops (C3 P ops.toList) = true ∧ (a = .draw l (To (C3 P ops.toList)) ∨ a = .drawC l (C3 P ops.toList)))) := by
 simp only [Bc] at h
 split at h
 · rename_i l hl
   cases d with
   | false => simp only [cond_false, iS] at h; exact .inr ⟨l, hl, .inl ⟨rfl, h.symm⟩⟩
   | true =>
     rw [cond_true] at h
     cases hs : H8 P ops (C3 P ops.toList) with
     | false => rw [hs] at h; simp only [cond_false, iS] at h; exact .inl h.symm
     | true =>
       rw [hs] at h
       simp only [cond_true, iS] at h
       refine .inr ⟨l, hl, .inr ⟨rfl, rfl, ?_⟩⟩
       cases hu : useC l (C3 P ops.toList) with
       | true => rw [hu] at h; exact .inr h.symm
       | false => rw [hu] at h; exact .inl h.symm
 · injection h with h; exact .inl h.symm
theorem ExA.skip (h : K .normal s) : ExA P W0 .skip s K := fun c hc => by
 cases c with
 | skip => exact Ex.skip h
 | region id ops d => rcases C2 hc with h2 | ⟨l, _, ⟨_, h2⟩ | ⟨_, _, h2 | h2⟩⟩ <;> cases h2
 | _ => simp only [Bc] at hc <;> (repeat' (split at hc)) <;> cases hc
theorem Oo {c : Code} {l : List AOper} (h : Bc P c = some (.ops l)) : ∃ id ops, c = .region id ops false ∧ Aw P ops ops.toList = some l := by
 cases c with
 | region id ops d =>
   rcases C2 h with h2 | ⟨l', h1, ⟨rfl, h2⟩ | ⟨_, _, h2 | h2⟩⟩
   · cases h2
   · injection h2 with h2; subst h2; exact ⟨id, ops, rfl, h1⟩
   · cases h2
   · cases h2
 | _ => simp only [Bc] at h <;> (repeat' (split at h)) <;> cases h
theorem Lx {c : Code} {l : List AOper} {b : Bool} (h : Bc P c = some (.draw l b)) : ∃ id ops, c = .region id ops true ∧ Aw P ops ops.toList = some l ∧ H8 P ops (C3 P ops.toList) = true ∧ To (C3 P ops.toList) = b := by
 cases c with
 | region id ops d =>
   rcases C2 h with h2 | ⟨l', h1, ⟨rfl, h2⟩ | ⟨rfl, h3, h2 | h2⟩⟩
   · cases h2
   · cases h2
   · injection h2 with h2 h4; subst h2; exact ⟨id, ops, rfl, h1, h3, h4.symm⟩
   · cases h2
 | _ => simp only [Bc] at h <;> (repeat' (split at h)) <;> cases h
theorem Wj {c : Code} {l : List AOper} {p : SP} (h : Bc P c = some (.drawC l p)) : ∃ id ops, c = .region id ops true ∧ Aw P ops ops.toList = some l ∧ H8 P ops p = true := by
 cases c with
 | region id ops d =>
   rcases C2 h with h2 | ⟨l', h1, ⟨rfl, h2⟩ | ⟨rfl, h3, h2 | h2⟩⟩
   · cases h2
   · cases h2
   · cases h2
   · injection h2 with h2 h4; subst h2; subst h4; exact ⟨id, ops, rfl, h1, h3⟩
 | _ => simp only [Bc] at h <;> (repeat' (split at h)) <;> cases h
theorem L5 {c : Code} {x y : ACode} (h : Bc P c = some (.seq x y)) : ∃ a b, c = .seq a b ∧ Bc P a = some x ∧ Bc P b = some y := by
 cases c with
 | region id ops d => rcases C2 h with h2 | ⟨l, _, ⟨_, h2⟩ | ⟨_, _, h2 | h2⟩⟩ <;> cases h2
 | seq a b =>
   simp only [Bc] at h
   split at h
   · rename_i a' ha
     split at h
     · rename_i b' hb
       injection h with h; injection h with h1 h2; subst h1; subst h2
       exact ⟨a, b, rfl, ha, hb⟩
     · cases h
   · cases h
 | _ => simp only [Bc] at h <;> (repeat' (split at h)) <;> cases h
theorem Jl {c : Code} {o : AOpd} {x y : ACode} (h : Bc P c = some (.cond o x y)) : ∃ p a b, c = .cond p a b ∧ Aa p = some o ∧ Bc P a = some x ∧ Bc P b = some y := by
 cases c with
 | region id ops d => rcases C2 h with h2 | ⟨l, _, ⟨_, h2⟩ | ⟨_, _, h2 | h2⟩⟩ <;> cases h2
 | cond p a b =>
   simp only [Bc] at h
   split at h
   · rename_i p' hp
     split at h
     · rename_i a' ha
       split at h
       · rename_i b' hb
         injection h with h; injection h with h1 h2 h3; subst h1; subst h2; subst h3
         exact ⟨p, a, b, rfl, hp, ha, hb⟩
       · cases h
     · cases h
   · cases h
 | _ => simp only [Bc] at h <;> (repeat' (split at h)) <;> cases h
theorem K8 {c : Code} {id : Nat} {x : ACode} (h : Bc P c = some (.block id x)) : ∃ a, c = .block id a ∧ Bc P a = some x := by
 cases c with
 | region id ops d => rcases C2 h with h2 | ⟨l, _, ⟨_, h2⟩ | ⟨_, _, h2 | h2⟩⟩ <;> cases h2
 | block id a =>
   simp only [Bc] at h
   split at h
   · rename_i a' ha
     injection h with h; injection h with h1 h2; subst h1; subst h2
     exact ⟨a, rfl, ha⟩
   · cases h
 | _ => simp only [Bc] at h <;> (repeat' (split at h)) <;> cases h
theorem Jm {c : Code} {x : ACode} (h : Bc P c = some (.loop x)) : ∃ a, c = .loop a ∧ Bc P a = some x := by
 cases c with
 | region id ops d => rcases C2 h with h2 | ⟨l, _, ⟨_, h2⟩ | ⟨_, _, h2 | h2⟩⟩ <;> cases h2
 | loop a =>
   simp only [Bc] at h
   split at h
   · rename_i a' ha
     injection h with h; injection h with h1; subst h1
     exact ⟨a, rfl, ha⟩
   · cases h
 | _ => simp only [Bc] at h <;> (repeat' (split at h)) <;> cases h
theorem Yj {c : Code} {id : Nat} (h : Bc P c = some (.exit id)) : c = .exit id := by
 cases c with
 | region id ops d => rcases C2 h with h2 | ⟨l, _, ⟨_, h2⟩ | ⟨_, _, h2 | h2⟩⟩ <;> cases h2
 | exit id => simp only [Bc] at h; injection h with h; injection h with h; subst h; rfl
 | _ => simp only [Bc] at h <;> (repeat' (split at h)) <;> cases h
theorem A0h {c : Code} (h : Bc P c = some .ret) : c = .ret := by
 cases c with
 | region id ops d => rcases C2 h with h2 | ⟨l, _, ⟨_, h2⟩ | ⟨_, _, h2 | h2⟩⟩ <;> cases h2
 | ret => rfl
 | _ => simp only [Bc] at h <;> (repeat' (split at h)) <;> cases h
theorem ExA.ops (hg : Gr P W0 G) {l : List AOper} (h : Ea P W0 G l s (K .normal)) : ExA P W0 (.ops l) s K := fun c hc => by
 obtain ⟨id, ops, rfl, h1⟩ := Oo hc
 exact Ex.region hg.g (X3 h1 h)
theorem ExA.seq {x y : ACode} (h : ExA P W0 x s fun e s' => e.then s' (fun s' => ExA P W0 y s' K) K) : ExA P W0 (.seq x y) s K := fun c hc => by
 obtain ⟨a, b, rfl, ha, hb⟩ := L5 hc
 refine Ex.seq ((h a ha).mono fun e s' hk => ?_)
 cases e with
 | normal => exact hk b hb
 | exit id => exact hk
 | ret => exact hk
theorem ExA.cond (hg : Gr P W0 G) {c : AOpd} {x y : ACode} {b : Bool} (hv : ev G s c = some (.bool b)) (ht : b = true → ExA P W0 x s K) (hf : b = false → ExA P W0 y s K) : ExA P W0 (.cond c x y) s K := fun k hk => by
 obtain ⟨p, a, d, rfl, hp, ha, hd⟩ := Jl hk
 exact Ex.cond hg.g hp hv (fun h => ht h a ha) (fun h => hf h d hd)
theorem ExA.block {id : Nat} {x : ACode} (h : ExA P W0 x s (Am.inBlock id K)) : ExA P W0 (.block id x) s K := fun c hc => by
 obtain ⟨a, rfl, ha⟩ := K8 hc
 exact Ex.block (h a ha)
theorem ExA.exit {id : Nat} (h : K (.exit id) s) : ExA P W0 (.exit id) s K := fun c hc => by rw [Yj hc]; exact Ex.exit h
theorem ExA.ret (h : K .ret s) : ExA P W0 .ret s K := fun c hc => by rw [A0h hc]; exact Ex.ret h
end
abbrev wV (d : Nat) (x : AOp) : AOper := ⟨some d, none, x⟩
abbrev wM (d t : Nat) : AOper := ⟨some d, none, .move (.tmp t)⟩
abbrev wT (d g : Nat) (x : AOp) : AOper := ⟨some d, some (g, true), x⟩
abbrev wF (d g : Nat) (x : AOp) : AOper := ⟨some d, some (g, false), x⟩
abbrev wN (x : AOp) : AOper := ⟨none, none, x⟩
instance (n : Nat) : OfNat AOpd n := ⟨.tmp n⟩
abbrev kF (f : Nat) (x : List AOpd) : AOp := .call (.val (.fn f [] [])) x
abbrev vI (n : Int) : AOpd := .val (.int .i64 n)
abbrev sQ (x : List AOper) (y : ACode) : ACode := .seq (.ops x) y
abbrev z0L : List AVal := [.bool false, .int .i8 0, .int .i8 0, .int .i8 0, .int .i8 0, .int .i8 0, .int .i8 0, .int .i8 0, .int .i8 0, .int .i8 0, .int .i8 0, .int .i8 0, .int .i8 0, .int .i8 0, .int .i8 0, .int .i8 0, .int .i8 0, .int .i8 0, .int .i8 0, .int .i8 0, .int .i8 0, .int .i8 0, .int .i8 0, .int .i8 0, .int .i8 0, .int .i8 0, .int .i8 0, .int .i8 0, .int .i8 0, .int .i8 0, .int .i8 0, .int .i8 0, .int .i8 0, .int .i8 0, .int .i8 0, .int .i8 0, .int .i8 0, .int .i8 0, .int .i8 0, .int .i8 0, .int .i8 0, .int .i8 0, .int .i8 0, .int .i8 0, .int .i8 0, .int .i8 0, .int .i8 0, .int .i8 0, .int .i8 0, .int .i8 0, .int .i8 0, .int .i8 0, .int .i8 0, .int .i8 0, .int .i8 0, .int .i8 0, .int .i8 0, .int .i8 0, .int .i8 0, .int .i8 0, .int .i8 0, .int .i8 0, .int .i8 0, .int .i8 0, .int .i8 0, .int .i8 0, .int .i8 0, .int .i8 0, .int .i8 0, .int .i8 0, .int .i8 0, .int .i8 0, .int .i8 0, .int .i8 0, .int .i8 0, .int .i8 0, .int .i8 0, .int .i8 0, .int .i8 0, .int .i8 0, .int .i8 0, .int .i8 0, .int .i8 0, .int .i8 0, .int .i8 0, .int .i8 0, .int .i8 0, .int .i8 0, .int .i8 0, .int .i8 0, .int .i8 0, .int .i8 0, .int .i8 0, .int .i8 0, .int .i8 0, .int .i8 0, .int .i8 0, .bool false]
abbrev z1L : List AVal := [.int .i64 0, .int .i64 0, .int .i64 0, .str [], .bool false, .int .i64 0, .int .i64 0, .int .i64 0, .nilSl, .int .i64 0, .nilSl, .nilSl]
abbrev z2L : List AVal := [.int .i64 0, .int .i64 0]
abbrev z3L : List AVal := [.int .i64 0, .int .i64 0, .int .i64 0]
abbrev z4L : List AVal := [.nilSl, .nilSl, .nilSl, .nilSl]
abbrev z5L : List AVal := [.int .i64 1, .int .i64 0, .int .i64 0, .str [], .bool false, .int .i64 0, .int .i64 0, .int .i64 0, .nilSl, .int .i64 0, .nilSl, .nilSl]
abbrev z6L : List AVal := [.int .i64 0, .int .i64 0, .int .i64 0, .int .i64 0, .int .i64 0]
abbrev z7L : List AVal := [.int .i64 0, .int .i64 0, .int .i64 0, .int .i64 0, .int .i64 0, .str [], .int .i64 0, .bool false]
abbrev z8L : List AVal := [.int .i64 0, .int .i64 0, .str []]
abbrev z9L : List AVal := [.nilSl, .nilSl, .nilSl]
abbrev z10L : List AVal := [.str [], .int .i64 0, .int .i64 0, .int .i64 0, .int .i64 0, .nilSl]
abbrev z11L : List AVal := [.str [], .str [], .str [], .str [], .str [], .str [], .str [], .str [], .str []]
abbrev Qf : List AVal := [.str [], .nilSl]
abbrev A1l : List AVal := [.str [], .int .i64 0, .str []]
inductive RV where
 | tmp (t : Nat)
 | cell (t n : Nat) (agg : Bool)
def Y1 (P : Program) : ResultVar → Option RV
 | .tmp t => some (.tmp t)
 | .cell a t => match L2 P t with
   | some (n, agg) => some (.cell a n agg)
   | none => none
def Ll (P : Program) : List ResultVar → Option (List RV)
 | [] => some []
 | r :: rs => match Y1 P r with
   | some x => match Ll P rs with
     | some l => some (x :: l)
     | none => none
   | none => none
def A3j (s : St) : RV → Option AVal
 | .tmp t => s.env.get t
 | .cell a n agg => match s.env.get a with
   | some p => Hy n agg s.H p
   | none => none
def Is (s : St) : List RV → Option (List AVal)
 | [] => some []
 | r :: rs => match A3j s r with
   | some v => match Is s rs with
     | some vs => some (v :: vs)
     | none => none
   | none => none
theorem J8 {P : Program} {s : St} : ∀ {rs : List ResultVar} {l : List RV} {vs : List AVal}, Ll P rs = some l → Is s l = some vs → D3 P s rs = some vs
 | [], l, vs, hc, h => by simp only [Ll, iS] at hc; subst hc; exact h
 | r :: rs, l, vs, hc, h => by
   simp only [Ll] at hc
   split at hc
   · rename_i x hx
     split at hc
     · rename_i l' hl
       injection hc with hc; subst hc
       simp only [Is] at h
       split at h
       · rename_i v hv
         split at h
         · rename_i vs' hvs
           injection h with h; subst h
           have hr : Oc P s r = some v := by
            cases r with
            | tmp t => simp only [Y1, iS] at hx; subst hx; exact hv
            | cell a t =>
              simp only [Y1] at hx
              split at hx
              · rename_i n agg ht
                injection hx with hx; subst hx
                simp only [A3j] at hv
                simp only [Oc]
                split at hv
                · rename_i p hp
                  rw [hp]
                  simp only [ht]
                  exact hv
                · cases hv
              · cases hx
           simp only [D3, hr, J8 hl hvs]
         · cases h
       · cases h
     · cases hc
   · cases hc
structure AFn where
 code : ACode
 res : List RV
 n : Nat
def Ab (P : Program) (f : Nat) : Option AFn :=
 match P.funcs[f]? with
 | some fn => match fn.body with
   | some c => match Bc P c with
     | some a => match Ll P fn.results.toList with
       | some l => cond (fn.name == "runtime.NumGoroutine") none (some ⟨a, l, fn.ntmps⟩)
       | none => none
     | none => none
   | none => none
 | none => none
theorem Ib {P : Program} {f : Nat} {x : AFn} (h : Ab P f = some x) : ∃ fn c, P.funcs[f]? = some fn ∧ fn.body = some c ∧ Bc P c = some x.code ∧ Ll P fn.results.toList = some x.res ∧ fn.name ≠ "runtime.NumGoroutine" ∧ fn.ntmps = x.n := by
 unfold Ab at h
 split at h
 · rename_i fn hf
   split at h
   · rename_i c hc
     split at h
     · rename_i a ha
       split at h
       · rename_i l hl
         cases hn : fn.name == "runtime.NumGoroutine" with
         | true => rw [hn] at h; cases h
         | false =>
           rw [hn] at h
           simp only [cond_false, iS] at h
           subst h
           refine ⟨fn, c, hf, hc, ha, hl, ?_, rfl⟩
           intro e
           rw [e] at hn
           simp at hn
       · cases h
     · cases h
   · cases h
 · cases h
def Fh : Nat → List AVal → List (Nat × AVal)
 | _, [] => []
 | i, v :: r => (i, v) :: Fh (i + 1) r
theorem Ih : ∀ (az : List AVal) (i t : Nat), lk t (Fh i az) = if i ≤ t ∧ t < i + az.length then az[t - i]? else none
 | [], i, t => by simp only [Fh, lk, lNi, Nat.add_zero]; rw [if_neg (by omega)]
 | v :: r, i, t => by
   simp only [Fh, lk, lCo]
   cases h : Nat.beq t i with
   | true =>
     have := nBq h
     subst this
     rw [cond_true, if_pos (by omega)]
     simp
   | false =>
     have := Nat.ne_of_beq_eq_false h
     rw [cond_false, Ih r (i + 1) t]
     by_cases h2 : i + 1 ≤ t ∧ t < i + 1 + r.length
     · rw [if_pos h2, if_pos (by omega), show t - i = (t - (i + 1)) + 1 by omega, List.getElem?_cons_succ]
     · rw [if_neg h2, if_neg (by omega)]
def A1q (n : Nat) (x : AVal) (Hx : Hz) (v : AVal) (H' : Hz) : Prop :=
 (x = v ∧ Hx = H') ∨ (B2 n (Hx.take n) = true ∧ (∃ m, frz Hx n m x = some v) ∧ Hx.take n = H')
theorem Lc {W0 : World} {F : Nat → Prop} {bs : List Nat} {H : Hz} {w : World} (hh : A7 W0 F bs H w) {bs0 : List Nat} {H0 : Hz} {w0 : World} (he : Ext bs0 H0 w0 bs H w) {x v : AVal} {H' : Hz} {cv : Value} (hv : Rep F bs H w x cv)
 (hl : A1q H0.length x H v H') : ∃ bs', Rep F bs' H' w v cv ∧ A7 W0 F bs' H' w ∧ Ext bs0 H0 w0 bs' H' w := by
 rcases hl with ⟨rfl, rfl⟩ | ⟨h1, ⟨m, h2⟩, rfl⟩
 · exact ⟨bs, hv, hh, he⟩
 · exact ⟨bs.take H0.length, Ol hh m x cv v hv h2, hh.take h1, he.take⟩
def Lp (rs : List RV) (n : Nat) (v : AVal) (H' : Hz) (e : Am) (s : St) : Prop :=
 (match e with | .exit _ => False | _ => True) ∧ ∃ vs, Is s rs = some vs ∧ A1q n (Hw vs) s.H v H'
theorem A1.of_fn {P : Program} {W0 : World} {f : Nat} {x : AFn} (hf : Ab P f = some x) {args : List AVal} {H : Hz} {v : AVal} {H' : Hz} (hl : args.length ≤ 4094) {n : Nat} (hn : args.length + (x.n - args.length) = n)
 (h : ExA P W0 x.code ⟨.al (Fh 0 args), H, n⟩ (Lp x.res H.length v H')) : A1 P W0 f args H v H' := by
 obtain ⟨fn, c, h1, h2, h3, h4, h5, h6⟩ := Ib hf
 refine ⟨⟨fn, c, h1, h2, h5⟩, fun F bs w cargs hh hr => ?_⟩
 have hrs := Ez hh hr hl fn.ntmps
 have hrs' : RS W0 F bs ⟨.al (Fh 0 args), H, n⟩ { tmps := cargs.toArray ++ Array.replicate (fn.ntmps - cargs.toArray.size) undef, defers := [] } w :=
  ⟨hrs.heap, by rw [hrs.size, ← hn, h6], fun t u hu => hrs.env t u (by
   rw [D9 args 0 .leaf t (by omega)]
   have hu : lk t (Fh 0 args) = some u := hu
   rw [Ih] at hu
   by_cases hc : 0 ≤ t ∧ t < 0 + args.length
   · rw [if_pos hc] at hu ⊢; exact hu
   · rw [if_neg hc] at hu; cases hu)⟩
 refine calls_of_wp h1 h2 (h c h3 F bs _ w hrs' _ fun e s' bs' a' w' hk hrs hext hd => ?_)
 obtain ⟨hne, vs, hvs, hlv⟩ := hk
 obtain ⟨cv, r1, r2⟩ := Eh hrs (J8 h4 hvs)
 obtain ⟨bs'', r3, r4, r5⟩ := Lc hrs.heap hext r2 hlv
 have fin : bodyPost P fn (fun e w' => ∃ cv bs', e = .returned cv ∧ Rep F bs' H' w' v cv ∧ A7 W0 F bs' H' w' ∧ Ext bs H w bs' H' w') .ret a' w' := ⟨hd, cv, r1, cv, bs'', rfl, r3, r4, r5⟩
 cases e with
 | normal => exact fin
 | ret => exact fin
 | exit id => exact hne.elim
section
variable {P : Program} {W0 : World} {G : List (Nat × AVal)} {s : St} {K : St → Prop} {r : List AOper}
end
section
variable {P : Program} {W0 : World} {G : List (Nat × AVal)}
structure Wk (m : Nat) (s1 s2 : St) : Prop where
 n : s1.n = s2.n
 lo : m ≤ s1.H.length
 hi : s2.H.take s1.H.length = s1.H
 env : ∀ t v, s1.env.get t = some v → s2.env.get t = some v
 clo : s1.H.length = s2.H.length ∨ (B2 s1.H.length s1.H = true ∧ ∀ t v, s1.env.get t = some v → blw s1.H.length v = true)
theorem Ext.takeN {bs0 : List Nat} {H0 : Hz} {w0 : World} {bs : List Nat} {H : Hz} {w : World} (h : Ext bs0 H0 w0 bs H w) {n : Nat} (hn : H0.length ≤ n) : Ext bs0 H0 w0 (bs.take n) (H.take n) w := by
 refine ⟨h.size, h.block, fun k hk => h.new k (List.mem_of_mem_take hk), fun i o ho => ?_⟩
 have hi := (List.getElem?_eq_some_iff.1 ho).1
 obtain ⟨o', h1, h2⟩ := h.obj i o ho
 refine ⟨o', by rw [List.getElem?_take_of_lt (by omega)]; exact h1, ?_⟩
 have hbs : (bs.take n)[i]? = bs[i]? := List.getElem?_take_of_lt (by omega)
 cases o with
 | dead => exact h2
 | iter s p => simpa only [B0, hbs] using h2
 | mp es => simpa only [B0, hbs] using h2
 | cells T cs op => cases op <;> simpa only [B0, hbs] using h2
end
instance (n : Nat) : OfNat RV n := ⟨.tmp n⟩
section
variable {P : Program} {W0 : World} {G : List (Nat × AVal)} {l : List (Nat × AVal)} {H H' : Hz} {n : Nat} {K : St → Prop} {r : List AOper}
theorem lNil (h : K ⟨.al l, H, n⟩) : Ea P W0 G [] ⟨.al l, H, n⟩ K := h
theorem lVal {d : Nat} {op : AOp} {v : AVal} {side : List (Int × Int)} (h : aop G ⟨.al l, H, n⟩ op = some (.val v H' side)) (hd : (Nat.blt d n && Nat.blt d 4094) = true) (hs : Af side) (k : Ea P W0 G r ⟨.al ((d, v) :: l), H', n⟩ K) : Ea P W0 G (⟨some d, none, op⟩ :: r) ⟨.al l, H, n⟩ K := by
 simp only [Ea, Jt, h]
 exact ⟨hs, hd, k⟩
end
theorem A4 {rs : List RV} {n : Nat} {v : AVal} {H' : Hz} {e : Am} {s : St} {vs : List AVal} (he : (match e with | .exit _ => False | _ => True)) (h1 : Is s rs = some vs) (h2 : Hw vs = v) (h3 : s.H = H') : Lp rs n v H' e s :=
 ⟨he, vs, h1, .inl ⟨h2, h3⟩⟩
theorem A0 {rs : List RV} {n : Nat} {v : AVal} {H' : Hz} {e : Am} {s : St} {vs : List AVal} (he : (match e with | .exit _ => False | _ => True)) (h1 : Is s rs = some vs) (h2 : B2 n (s.H.take n) = true) (m : Nat) (h3 : frz s.H n m (Hw vs) = some v) (h4 : s.H.take n = H') : Lp rs n v H' e s :=
 ⟨he, vs, h1, .inr ⟨h2, ⟨m, h3⟩, h4⟩⟩
section
variable (P : Program) (W0 : World) (G : List (Nat × AVal))
def B5 (o : AOper) (s : St) (K : AVal → Hz → Prop) : Prop :=
 match o.guard with
 | none => H7 P W0 s.H (aop G s o.op) K
 | some (d, want) => match s.env.get d with
   | some (.bool b) => cond (cond b want (not want)) (H7 P W0 s.H (aop G s o.op) K) (K (.tup []) s.H)
   | some (.tup []) => K (.tup []) s.H
   | _ => False
def Bi : List AOper → St → (St → Prop) → Prop
 | [], s, K => K s
 | o :: r, s, K => B5 P W0 G o s fun v H' => H' = s.H ∧ Et o.dst s.n = true ∧ Bi r ⟨Fa o.dst v s.env, s.H, s.n⟩ K
end
section
variable {P : Program} {W0 : World} {G : List (Nat × AVal)}
theorem A06 {H : Hz} {r : Option ARes} {K : AVal → Hz → Prop} (h : H7 P W0 H r K) : ∃ v H', H7 P W0 H r (fun v' H'' => v' = v ∧ H'' = H') ∧ K v H' := by
 unfold H7 at h ⊢
 split at h
 · exact ⟨_, _, ⟨h.1, rfl, rfl⟩, h.2⟩
 · exact ⟨_, _, ⟨rfl, rfl⟩, h⟩
 · obtain ⟨v, H', h1, h2⟩ := h; exact ⟨v, H', ⟨v, H', h1, rfl, rfl⟩, h2⟩
 · exact h.elim
theorem Nz {o : AOper} {s : St} {K : AVal → Hz → Prop} (h : B5 P W0 G o s K) : ∃ v H', B5 P W0 G o s (fun v' H'' => v' = v ∧ H'' = H') ∧ K v H' := by
 unfold B5 at h ⊢
 split at h
 · exact A06 h
 · split at h
   · rename_i b _
     revert h
     cases (cond b _ _ : Bool) with
     | true => exact A06
     | false => exact fun h => ⟨_, _, ⟨rfl, rfl⟩, h⟩
   · exact ⟨_, _, ⟨rfl, rfl⟩, h⟩
   · exact h.elim
theorem Fp {ops : Array Oper} {o : Oper} {a : AOper} (hc : B6 P ops o = some a) {s : St} {K : AVal → Hz → Prop} (h : B5 P W0 G a s K) : D7 P W0 G ops o s K := by
 unfold B6 at hc
 cases hg : By ops o.guard with
 | none => rw [hg] at hc; cases hc
 | some g =>
   rw [hg] at hc
   simp only at hc
   cases hop : Ah P o.op with
   | none => rw [hop] at hc; cases hc
   | some op =>
     rw [hop] at hc
     injection hc with hc
     subst hc
     unfold D7
     cases hgd : o.guard with
     | none =>
       rw [hgd] at hg
       simp only [By, iS] at hg
       subst hg
       simp only [Bq, hop]
       exact h
     | some gw =>
       obtain ⟨j, want⟩ := gw
       rw [hgd] at hg
       simp only [By] at hg
       cases hd : (ops[j]?).bind (·.dst) with
       | none => rw [hd] at hg; cases hg
       | some d =>
         rw [hd] at hg
         simp only [iS] at hg
         subst hg
         simp only [Bq, hd]
         simp only [B5] at h
         split at h
         · rename_i b hb
           rw [hb]
           simp only
           cases hw : cond b want (not want) with
           | true => rw [hw] at h; simp only [hop]; exact h
           | false => rw [hw] at h; exact h
         · rename_i hb
           rw [hb]
           exact h
         · exact h.elim
theorem Df {ops : Array Oper} {o : Oper} {a : AOper} (hc : B6 P ops o = some a) : a.dst = o.dst := by
 unfold B6 at hc
 split at hc
 · split at hc
   · injection hc with hc; subst hc; rfl
   · cases hc
 · cases hc
theorem Ci {ops : Array Oper} : ∀ {l : List Oper} {az : List AOper}, Aw P ops l = some az → az.length = l.length ∧ ∀ (j : Nat) (o : Oper), l[j]? = some o → ∃ a, az[j]? = some a ∧ B6 P ops o = some a
 | [], az, hc => by
   simp only [Aw, iS] at hc
   subst hc
   exact ⟨rfl, fun j o h => by simp at h⟩
 | o :: r, az, hc => by
   simp only [Aw] at hc
   cases ho : B6 P ops o with
   | none => rw [ho] at hc; cases hc
   | some a =>
     rw [ho] at hc
     simp only at hc
     cases hr : Aw P ops r with
     | none => rw [hr] at hc; cases hc
     | some l =>
       rw [hr] at hc
       injection hc with hc
       subst hc
       obtain ⟨h1, h2⟩ := Ci hr
       refine ⟨by simp [h1], fun j o' h => ?_⟩
       cases j with
       | zero => simp only [List.getElem?_cons_zero, iS] at h; subst h; exact ⟨a, rfl, ho⟩
       | succ j => simp only [List.getElem?_cons_succ] at h ⊢; exact h2 j o' h
def D5 : List AOper → List AVal → Env → Nat → Env
 | o :: r, v :: vs, e, j + 1 => D5 r vs (Fa o.dst v e) j
 | _, _, e, _ => e
theorem M7 : ∀ {l : List AOper} {s : St} {K : St → Prop}, Bi P W0 G l s K → ∃ vs : List AVal, vs.length = l.length ∧ K ⟨D5 l vs s.env l.length, s.H, s.n⟩ ∧
 ∀ (j : Nat) (a : AOper), l[j]? = some a → ∃ v, vs[j]? = some v ∧ B5 P W0 G a ⟨D5 l vs s.env j, s.H, s.n⟩ (fun v' H' => v' = v ∧ H' = s.H) ∧ Et a.dst s.n = true ∧ D5 l vs s.env (j + 1) = Fa a.dst v (D5 l vs s.env j)
 | [], s, K, h => ⟨[], rfl, h, fun j a h => by simp at h⟩
 | o :: r, s, K, h => by
   simp only [Bi] at h
   obtain ⟨v, H', h1, h2, h3, h4⟩ := Nz h
   subst h2
   obtain ⟨vs, k1, k2, k3⟩ := M7 h4
   refine ⟨v :: vs, by simp [k1], k2, fun j a hj => ?_⟩
   cases j with
   | zero =>
     simp only [List.getElem?_cons_zero, iS] at hj
     subst hj
     refine ⟨v, rfl, h1, h3, ?_⟩
     show D5 r vs _ 0 = _
     cases r <;> cases vs <;> rfl
   | succ j =>
     simp only [List.getElem?_cons_succ] at hj ⊢
     exact k3 j a hj
theorem drawQ (hm : P.follows .mixedOrders = true) (hg : GOK W0 G) {id : Nat} {ops : Array Oper} {l : List AOper} (hc : Aw P ops ops.toList = some l) (hsp : H8 P ops (C3 P ops.toList) = true) {s : St} {K : Am → St → Prop}
 (h : Bi P W0 G l s (K .normal)) : Ex P W0 (.region id ops true) s K := by
 generalize C3 P ops.toList = sp at hsp
 obtain ⟨hcl, hcg⟩ := Ci hc
 obtain ⟨vs, r1, r2, r3⟩ := M7 h
 have hsz : l.length = ops.size := by rw [hcl]; simp
 simp only [H8, bAt] at hsp
 obtain ⟨⟨⟨⟨k1, k2⟩, k3⟩, k4⟩, k5⟩ := hsp
 have hN : sp.n = ops.size := nBq k1
 have hat : ∀ (j : Nat) (o : Oper), ops[j]? = some o → Q7 P ops sp j o = true := by
  intro j o ho
  have := List.all_eq_true.1 k5 j (List.mem_range.2 (Array.getElem?_eq_some_iff.1 ho).1)
  rw [ho] at this
  exact this
 have hat1 : ∀ (j : Nat) (o : Oper), ops[j]? = some o → (∀ e ∈ o.after, Region.binds .any e = true → e.on < j) ∧ sp.mask.getD j 0 = M9 sp.mask o ∧ sp.kind.getD j 0 = Br P o ∧
  ∀ (i : Nat) (oi : Oper) (d : Nat), ops[i]? = some oi → oi.dst = some d → (i = j ∨ o.dst ≠ some d) ∧ (d ∈ reads P ops o → sp.msk j i = true ∨ sp.msk i j = true) := by
  intro j o ho
  have := hat j o ho
  simp only [Q7, bAt] at this
  obtain ⟨⟨⟨a1, a2⟩, a3⟩, a4⟩ := this
  refine ⟨fun e he hb => ?_, nBq a2, nBq a3, fun i oi d hi hd => ?_⟩
  · have := List.all_eq_true.1 a1 e (by simpa using he)
    rw [hb, cond_true, Nat.blt_eq] at this
    exact this
  · have := List.all_eq_true.1 a4 i (List.mem_range.2 (by rw [hN]; exact (Array.getElem?_eq_some_iff.1 hi).1))
    rw [hi] at this
    simp only [Option.bind_some, hd, bAt, Bool.or_eq_true] at this
    obtain ⟨b1, b2⟩ := this
    refine ⟨?_, fun hr => ?_⟩
    · rcases b1 with b1 | b1
      · exact .inl (nBq b1)
      · refine .inr fun hod => ?_
        unfold A04 at b1
        rw [hod] at b1
        simp at b1
    · have := List.all_eq_true.1 b2 d hr
      rw [show Nat.beq d d = true from Nat.beq_refl d, cond_true, Bool.or_eq_true] at this
      exact this
 have hclosed : ∀ σ ∈ sp.states, ∀ j ∈ sp.steps σ, SP.nxt σ j ∈ sp.states := fun σ hσ j hj => Fj (List.all_eq_true.1 (List.all_eq_true.1 k3 σ hσ) j hj)
 have hget : ∀ (j : Nat) (o : Oper), ops[j]? = some o → ∃ v, vs[j]? = some v ∧ D7 P W0 G ops o ⟨D5 l vs s.env j, s.H, s.n⟩ (fun v' H' => v' = v ∧ H' = s.H) ∧ Et o.dst s.n = true ∧ D5 l vs s.env (j + 1) = Fa o.dst v (D5 l vs s.env j) := by
  intro j o ho
  obtain ⟨a, ha, hca⟩ := hcg j o (by simpa using ho)
  obtain ⟨v, b1, b2, b3, b4⟩ := r3 j a ha
  rw [Df hca] at b3 b4
  exact ⟨v, b1, Fp hca b2, b3, b4⟩
 let p : Plan := { v := fun j => (vs[j]?).getD .nilIf, eff := sp.eff, ok := fun σ => σ ∈ sp.states, dn := tb, nxt := SP.nxt, fin := sp.fin, Hs := fun _ => s.H, mask := sp.msk, env := D5 l vs s.env }
 have hp : Iw P W0 G ops s p := by
  refine ⟨fun j o ho => (hat1 j o ho).1, fun j o i ho hm => ?_, fun i j oi oj t hi hj h1 h2 => ?_, fun j oj t hj ht i oi hi hti => ((hat1 j oj hj).2.2.2 i oi t hi hti).2 ht, ?_, fun i o ho => ?_, Fj k2, fun i _ _ => Nat.zero_testBit i, rfl, fun j o ho hef σ hσ hm => ?_, fun j o ho hef σ hσ hdn hm => ?_, fun σ hσ hall => rfl, fun j o ho => ?_⟩
  · have h2 := (hat1 j o ho).2.1
    have hm' : tb (sp.mask.getD j 0) i = true := hm
    rw [h2] at hm'
    exact Ov hm'
  · rcases ((hat1 j oj hj).2.2.2 i oi t hi h1).1 with h' | h'
    · exact h'
    · exact absurd h2 h'
  · show D5 l vs s.env 0 = s.env
    cases l <;> cases vs <;> rfl
  · obtain ⟨v, b1, b2, b3, b4⟩ := hget i o ho
    show D5 l vs s.env (i + 1) = Fa o.dst ((vs[i]?).getD .nilIf) (D5 l vs s.env i)
    rw [b4, b1]; rfl
  · obtain ⟨v, b1, b2, b3, b4⟩ := hget j o ho
    show D7 P W0 G ops o ⟨D5 l vs s.env j, s.H, s.n⟩ fun v' H' => v' = (vs[j]?).getD .nilIf ∧ H' = s.H
    rw [b1]; exact b2
  · obtain ⟨v, b1, b2, b3, b4⟩ := hget j o ho
    have hmay : sp.mayB σ j = true := (Rw (p := sp) hN).2 hm
    have hst : j ∈ sp.steps σ := by
     unfold SP.steps
     rw [List.mem_filter, List.mem_range]
     refine ⟨by rw [hN]; exact (Array.getElem?_eq_some_iff.1 ho).1, ?_⟩
     have h1 : sp.eff j = true := hef
     have h2 : tb σ j = false := hdn
     rw [h1, h2, hmay]; rfl
    refine ⟨?_, hclosed σ hσ j hst, fun i _ _ => Vs σ j i⟩
    show D7 P W0 G ops o ⟨D5 l vs s.env j, s.H, s.n⟩ fun v' H' => v' = (vs[j]?).getD .nilIf ∧ H' = s.H
    rw [b1]; exact b2
  · obtain ⟨v, b1, b2, b3, b4⟩ := hget j o ho
    exact b3
 refine Ex.draw hm hg hp ?_
 show K .normal ⟨D5 l vs s.env ops.size, s.H, s.n⟩
 rw [← hsz]
 exact r2
theorem ExA.draw (hg : Gr P W0 G) {l : List AOper} {b : Bool} {s : St} {K : Am → St → Prop} (h : Bi P W0 G l s (K .normal)) : ExA P W0 (.draw l b) s K := fun c hc => by
 obtain ⟨id, ops, rfl, h1, h2, _⟩ := Lx hc
 exact drawQ hg.mixed hg.g h1 h2 h
end
section
variable {P : Program} {W0 : World} {G : List (Nat × AVal)} {l : List (Nat × AVal)} {H : Hz} {n : Nat} {K : St → Prop} {r : List AOper}
theorem G8 (h : K ⟨.al l, H, n⟩) : Bi P W0 G [] ⟨.al l, H, n⟩ K := h
theorem B1 {d : Nat} {op : AOp} {v : AVal} {side : List (Int × Int)} (h : aop G ⟨.al l, H, n⟩ op = some (.val v H side)) (hd : (Nat.blt d n && Nat.blt d 4094) = true) (hs : Af side) (k : Bi P W0 G r ⟨.al ((d, v) :: l), H, n⟩ K) : Bi P W0 G (⟨some d, none, op⟩ :: r) ⟨.al l, H, n⟩ K := by
 simp only [Bi, B5, h]
 exact ⟨hs, rfl, hd, k⟩
theorem Cc {d : Nat} {op : AOp} {f : Nat} {args : List AVal} {v : AVal} (h : aop G ⟨.al l, H, n⟩ op = some (.call f args)) (hd : (Nat.blt d n && Nat.blt d 4094) = true) (hc : A1 P W0 f args H v H) (k : Bi P W0 G r ⟨.al ((d, v) :: l), H, n⟩ K) : Bi P W0 G (⟨some d, none, op⟩ :: r) ⟨.al l, H, n⟩ K := by
 simp only [Bi, B5, h]
 exact ⟨v, H, hc, rfl, hd, k⟩
theorem A32 {dst : Option Nat} {op : AOp} {t : Nat} {want b : Bool} (h : lk t l = some (.bool b)) (k1 : b = want → Bi P W0 G (⟨dst, none, op⟩ :: r) ⟨.al l, H, n⟩ K) (k2 : b = (!want) → Bi P W0 G (⟨dst, none, .move (.val (.tup []))⟩ :: r) ⟨.al l, H, n⟩ K) :
 Bi P W0 G (⟨dst, some (t, want), op⟩ :: r) ⟨.al l, H, n⟩ K := by
 have h' : (Env.al l).get t = some (.bool b) := h
 simp only [Bi, B5, h']
 by_cases hb : b = want
 · subst hb
   have := k1 rfl
   simp only [Bi, B5] at this
   cases b <;> exact this
 · have hb' : b = (!want) := by cases b <;> cases want <;> simp_all
   have := k2 hb'
   simp only [Bi, B5, aop, ev, Jx, H7] at this
   subst hb'
   cases want <;> exact this.2
end
end Go.Abs
