/- A part of the proof that tabula/tabulalaw25.PackBack returns true for every input, each argument reading as it did (its card: the last text). No conditions of its own. -/
import Derived.Test.YtlfcfgbbhlgocaaGreatDoorTA
import Derived.Lib.AppendStr
import Derived.Orders
set_option linter.unusedVariables false
set_option linter.unusedSimpArgs false
open List renaming length->N
open Array renaming getElem?_eq_some_iff->dZ,getElem?_eq_getElem->eE,getD_eq_getD_getElem?->eJ
open Bool renaming or_eq_true->eI
open ByteArray renaming mk->aK
open Go.Abs.E6 renaming same->dX
open Go.Abs.Env renaming get_put->eQ
open Go.Abs.Ext renaming refl->eA
open Go.Builtin renaming zeroCells->aJ
open Go.Lib renaming strCells->dY
open Go.Region renaming binds->eC,ready->eH,wanted->eO
open Go.Result renaming andThen_ok->bG
open Go.Sem renaming run_pure->aQ,run_bind->cG
open Go.Value renaming int->dM
open List renaming all_eq_true->eB,getElem?_eq_some_iff->aC,range->eD,getElem?_set_self->bD,mem_of_mem_take->dA,mem_append->eG
open Nat renaming beq->aA,ble->bK,blt->bB,strongRecOn->eF,shiftLeft->eK,eq_of_beq_eq_true->cV,lor->eM,add_le_add_right->eN,le_of_lt->eP,le_refl->bC
open Option renaming map_eq_some_iff->bT,bind_eq_some_iff->eL
namespace Go.Abs
open Go.RowKit
variable {F : Nat → Prop}
def u8c (l:Bz):List AVal:=l.map λb=>.int .u8 (b.toNat:Nat)
theorem BL {F:Nat→Prop}{bs:List Nat}{H:Hz}{w:World}(l:Bz):Ab F bs H w (u8c l) (dY ⟨l.toArray⟩):=by induction l<;>grind[u8c,dY,Ab,Rep]
def IJ (P:Program)(t:TypeId):Option TypeId:=
 match Gn P t with
 |some (e,1,1)=>match P.info? e with
  |some i=>match i.zero with
   |some (.int .u8 0)=>some e|_=>none
  |none=>none
 |_=>none
def DO (e:Nat)(H:Hz)(x:AVal)(l:Bz):Option (AVal×Hz×List (Int×Int)):=
 cond (aA (N l) 0) none (match x with
  |.nilSl=>some (.hsl 1 (N H) 0 (N l) none,H++[.cells e (u8c l) true],[((N l:Nat),C0)])
  |.hsl k' id off len _=>cond (aA 1 k') (match H[id]? with
   |some (.cells T cs true)=>cond (aA T e&&aA off 0&&aA len (N cs)) (some (.hsl 1 id 0 (len+N l) none,H.set id (.cells T (cs++u8c l) true),[((len+N l:Nat),C0)])) none|_=>none) none
  |_=>none)
theorem TS {P:Program}{W0 w:World}{bs:List Nat}{H H':Hz}(hh:Ae W0 F bs H w){t u ty e:TypeId}(ht:IJ P t=some e)(hu:P.underlying u=some .string){x v:AVal}{cx:Value}{l:Bz}{side:List (Int×Int)}
 (hx:Rep F bs H w x cx) (h:DO e H x l=some (v,H',side)) (hs:Ah side):
 ∃cv w' bs',(Builtin.append_ #[t,u] ty #[cx,.string ⟨l.toArray⟩]).run P w= .ok cv w'∧Rep F bs' H' w' v cv∧Ae W0 F bs' H' w'∧Ext bs H w bs' H' w':=by
 unfold IJ at ht;split at ht
 ·rename_i e' hte;split at ht
  ·rename_i i hi;split at ht
   ·rename_i hz0;injection ht with ht;subst ht;obtain⟨hts,hk1,i',z,hi',hz,hisz,hiby,hzsz⟩:=Kv hte;have hTe:=Yq hte;rw[hi]at hi';injection hi' with hi';subst hi';have hsz:(aK l.toArray).size=N l:=IL;have hsl:N (dY ⟨l.toArray⟩)=N l:=by rw[Lib.strCells_length,hsz]
    unfold DO at h;cases hl0:aA (N l) 0 with
    |true=>rw[hl0]at h;cases h
    |false=>
     rw[hl0,cond_false]at h;have hpos:0<N l:=Nat.pos_of_ne_zero (λe=>by simp_all);have hzr:∀n,(aJ (dM .u8 0).cells n).size=n:=λn=>by rw[Jp];grind
     split at h
     ·simp only[Rep]at hx;subst hx;simp only[iS,iP]at h;obtain⟨rfl,rfl,rfl⟩:=h;have hr1:=Hi hs.1;have hr:=run_append_nil_string (P:=P) w t u ty e' i (.int .u8 0) hts hu hi hz0 ⟨l.toArray⟩ Y Y (by grind);rw[hsz]at hr;have hg:=grownCap_ge w (N l) 0 e';have hgm:=grownCap_le_maxLen w (N l) 0 e' (by grind[maxLen]);obtain⟨hdr,hde⟩:=hh.drew;obtain⟨h1,h2,h3⟩:=Xy (W0:=W0) hdr e' 1 (N l) (grownCap w (N l) 0 e') hTe (aJ (dM .u8 0).cells<|grownCap w (N l) 0 e'-N l).toList (BL (F:=F) (bs:=bs) (H:=H) (w:=w.drew) l) Y (by grind) hg hgm;refine⟨_,_,_,?_,h1,h2,hde.trans h3⟩;rw[hr];have e1:(aK l.toArray).data.map (λb=>dM .u8 b.toNat)++aJ (dM .u8 0).cells (grownCap w (N l) 0 e'-N l)=(dY ⟨l.toArray⟩++(aJ (dM .u8 0).cells<|grownCap w (N l) 0 e'-N l).toList).toArray:=by apply Array.ext';simp[dY]
      rw[e1];rfl
     ·rename_i k' id off len cap;cases hkk:aA 1 k' with
      |false=>rw[hkk]at h;cases h
      |true=>
       rw[hkk,cond_true]at h;have hk':=nBq hkk;subst hk';simp only[Rep]at hx;obtain⟨_,hx⟩:=hx;unfold D1 at hx;split at h
       ·rename_i T cs ho;cases hc:(aA T e'&&aA off 0&&aA len (N cs))with
        |false=>rw[hc]at h;cases h
        |true=>
         rw[hc,cond_true]at h;simp only[iS,iP]at h;obtain⟨rfl,rfl,rfl⟩:=h;simp only[bAt]at hc;have hTq:=nBq hc.1.1;have hoff:=nBq hc.1.2;have hln:=nBq hc.2;subst hTq;subst hoff;have hr1:=Hi hs.1;rw[ho]at hx;obtain⟨_,hx⟩:=hx;obtain⟨bb,c,hb,rfl,hlc,_,hop⟩:=hx<|λ_=>⟨rfl,Y⟩;obtain⟨hcm,hcb⟩:=hop rfl;obtain⟨vs,rest,fr,hcell,hvl,hfr⟩:=hh.obj id _ bb ho hb;obtain rfl:=hfr hTe;rw[Jh hTe]at hcell;have hvlen:=hvl.length;have hbsz:Dj w bb=N (vs++rest):=by grind[Dj]
         have hlt2:N cs<N (cs++u8c l):=by grind[u8c]
         by_cases hroom:len+N l≤c
         ·have hfit:len+N l≤N (vs++rest):=by omega
          have hrun:=Lib.run_append_room_string (P:=P) w t u ty T i hts hu hi hisz bb len c (vs++rest).toArray hcell ⟨l.toArray⟩ Y (by grind);rw[hsz]at hrun;have hrow:(vs++rest).toArray.toList.take len++dY ⟨l.toArray⟩++(vs++rest).toArray.toList.drop (len+N l)=(vs++dY ⟨l.toArray⟩)++rest.drop (N l):=by simp_all[List.drop_append]
          rw[hrow]at hrun;have hlow:=hh.low bb<|mGe hb;have hoe:Bi bs bs w (w.setRow bb ((vs++dY ⟨l.toArray⟩)++rest.drop (N l)).toArray) id (.cells T cs true) (.cells T (cs++u8c l) true):=.inr ⟨T,_,Z,.inl hlt2⟩;have hext:=Ext.upd (w':=w.setRow bb ((vs++dY ⟨l.toArray⟩)++rest.drop (N l)).toArray) hh.nodup ho hb B4 (λk hk=>setRow_other w bb k _ hk) hoe;refine⟨_,_,bs,hrun,?_,Ae.upd hh ho hb (Gq w _ hlow.1) B4 (λk hk=>setRow_other w bb k _ hk) hoe ⟨vs++dY ⟨l.toArray⟩,rest.drop<|N l,(0,0),by grind[Jh,setRow_heap],Ab.ext hext _ _<|hvl.append<|BL l,λ_=>Z⟩,hext⟩;simp only[Rep,D1];have hid:=(aC.1 ho).1;rw[bD hid];have hul:N (u8c l)=N l:=Ze;refine⟨⟨_,c,hroom,Z⟩,?_,λ_=>⟨bb,c,hb,Z,hroom,B4,λ_=>⟨hcm,?_⟩⟩⟩;·grind
          ·unfold Dj;rw[setRow_heap w bb _ _ T (0,0) hcell];grind
         ·have hg:=grownCap_ge w (len+N l) c T;have hgm:=grownCap_le_maxLen w (len+N l) c T (by grind[maxLen])
          have hrun:=Lib.run_append_grow_string (P:=P) w t u ty T i (.int .u8 0) hts hu hi hz0 ⟨bb,0,none⟩ len c vs (by grind) (λj v hj=>by
           rw[Addr.add_at,cell_of_row w bb _ _ T (0,0) hcell]
           grind) ⟨l.toArray⟩ Y Y (by rw[hiby,hsz];exact growslice_fits Y Y)
          rw[hsz]at hrun;obtain⟨hdr,hde⟩:=hh.drew;have hmv:=AD (W0:=W0) hdr hTe ho hlt2 (vs++dY ⟨l.toArray⟩) (aJ (dM .u8 0).cells<|grownCap w (len+N l) c T-(len+N l)).toList<|Ab.ext hde _ _<|hvl.append<|BL l;have harr:(vs.toArray++(dY ⟨l.toArray⟩).toArray++aJ (dM .u8 0).cells (grownCap w (len+N l) c T-(len+N l)))=((vs++dY ⟨l.toArray⟩)++(aJ (dM .u8 0).cells<|grownCap w (len+N l) c T-(len+N l)).toList).toArray:=by grind
          rw[harr]at hrun;refine⟨_,_,_,hrun,?_,hmv.1,hde.trans hmv.2⟩;simp only[Rep,D1];have hid:=(aC.1 ho).1;rw[bD hid];have hul:N (u8c l)=N l:=Ze;refine⟨⟨_,_,hg,Z⟩,?_,λ_=>⟨w.heap.size,_,?_,Z,hg,B4,λ_=>⟨hgm,?_⟩⟩⟩;·grind
          ·exact bD (by grind)
          ·unfold Dj;have:(w.drew.alloc<|.cells ((vs++dY ⟨l.toArray⟩)++(aJ (dM .u8 0).cells<|grownCap w (len+N l) c T-(len+N l)).toList).toArray T).heap[w.heap.size]?=some (.cells ((vs++dY ⟨l.toArray⟩)++(aJ (dM .u8 0).cells<|grownCap w (len+N l) c T-(len+N l)).toList).toArray T):=heap_alloc_new w.drew _;grind
       ·cases h
     ·cases h
   ·cases ht
  ·cases ht
 ·cases ht
inductive AConv where
 |int (k:IntKind)|same|b2s|s2b (e:TypeId)|i2s
inductive AOp where
 |move (x:AOpd)|pick (c a b:AOpd)|alloc (T:TypeId) (zs:List AVal)|box (T:TypeId) (x:AOpd)|build (zs:List AVal) (ps:List<|Nat×Nat×AOpd)|bslice (e k len:Nat) (zs:List AVal) (ps:List<|Nat×Nat×AOpd)|load (n:Nat) (agg:Bool) (a:AOpd)|store (n:Nat) (a x:AOpd)|nilCheck (x:AOpd)|bin (op:BinOp) (d:Option TypeDesc) (x y:AOpd)|un (op:UnOp) (x:AOpd)|conv (c:AConv) (x:AOpd)|fieldAddr (off:Nat) (x:AOpd)|idxSl (k:Nat) (x i:AOpd)|idxArr (n k:Nat) (x i:AOpd)|idxStr (x i:AOpd)|cutStr (x:AOpd) (lo hi:Option AOpd)|cutSl (k:Nat) (x:AOpd) (lo hi:Option AOpd)|range (x:AOpd)|next (x:AOpd)|extract (x:AOpd) (i:Nat)|mkfn (f:FuncId) (first cap:List AOpd)
 |call (f:AOpd) (args:List AOpd)|append (e k b:Nat) (x y:AOpd)|len (str:Bool) (x:AOpd)|iface (T:TypeId) (x:AOpd)|mm (big:Bool) (x y:AOpd)|eqs (neg:Bool) (e:EP) (x y:AOpd)|field (n:Nat) (agg:Bool) (off:Nat) (x:AOpd)|idxVal (m n:Nat) (agg:Bool) (x i:AOpd)|cutArr (n k:Nat) (x:AOpd) (hi:Option AOpd)|clear (k:Nat) (zs:List AVal) (x:AOpd)|mkSl (e k:Nat) (zs:List AVal) (x y:AOpd)|mkMap|mapUpd (m k v:AOpd)|mapGet (m k:AOpd)|pan (x:AOpd)|tas (T:TypeId) (x:AOpd)|appS (e:Nat) (x y:AOpd)|cut0 (x:AOpd)
def oev (G:List<|Nat×AVal)(s:St):Option AOpd→Option (Option Int)
 |none=>some none
 |some x=>match ev G s x with
  |some (.int _ n)=>some (some n)|_=>none
def Vz (G:List<|Nat×AVal)(s:St):List (Nat×Nat×AOpd)→Option (List<|Nat×Nat×AVal)
 | []=>some []
 |(o,n,x)::r=>match ev G s x with
  |some v=>match Vz G s r with
   |some l=>some ((o,n,v)::l)|none=>none
  |none=>none
def M5 (H:Hz):Option AVal→Option ARes
 |some v=>some (.val v H [])|none=>none
def Vv (H:Hz):Option AV→Option ARes
 |some (v,side)=>some (.val v H side)|none=>none
def JD (H:Hz)(k:IntKind):AVal→Option ARes
 |.int _ n=>some (.val (.int k<|k.wrap n) H [])|_=>none
def IR (H:Hz):AVal→Option ARes
 |.str l=>some (.val (.str l) H [])|_=>none
def PQ (H:Hz)(e:TypeId):AVal→Option ARes
 |.str l=>some (.val (.hsl 1 (N H) 0 (N l) none) (H++[.cells e (l.map λb=>.int .u8 (b.toNat:Nat)) false]) [])|_=>none
def JE (H:Hz):AVal→Option ARes
 |.int _ n=>some (.val (.str (Utf8.encode n).data.toList) H [])|_=>none
def Qj (H:Hz)(c:AConv)(x:AVal):Option ARes:=match c with|.int k=>JD H k x|.same=>IR H x|.b2s=>M5 H (ab2s H x)|.s2b e=>PQ H e x|.i2s=>JE H x
def acut0 :AVal→Option AVal
 |.nilSl=>some .nilSl|.emp=>some .emp|.row _ (_::_)=>some .emp|.hsl _ _ _ _ _=>some .emp|_=>none
def aop (G:List<|Nat×AVal)(s:St):AOp→Option ARes
 |.move x=>M5 s.H<|ev G s x
 |.pick c a b=>match ev G s c with
  |some (.bool t)=>M5 s.H (cond t (ev G s a)<|ev G s b)|_=>none
 |.alloc T zs=>some<|.val (.ptr (N s.H) 0) (s.H++[.cells T zs false]) []
 |.box T x=>match ev G s x with
  |some v=>some (.val (.ptr (N s.H) 0) (s.H++[.cells T v.cells false]) [])|none=>none
 |.build zs ps=>match Vz G s ps with
  |some qs=>match Vj zs qs with
   |some r=>some (.val (.agg r) s.H [])|none=>none
  |none=>none
 |.bslice e k len zs ps=>match Vz G s ps with
  |some qs=>match Vj (Iq zs<|len*k) qs with
   |some r=>some (.val (.hsl k (N s.H) 0 len<|some len) (s.H++[.cells e r false]) [])|none=>none
  |none=>none
 |.load n agg a=>match ev G s a with
  |some p=>M5 s.H (Jf n agg s.H p)|none=>none
 |.store n a x=>match ev G s a with
  |some p=>match ev G s x with
   |some v=>match Nc n s.H p v with
    |some H'=>some (.skip H')|none=>none
   |none=>none
  |none=>none
 |.nilCheck x=>match ev G s x with
  |some p=>M5 s.H (anil s.H p)|none=>none
 |.bin op d x y=>match ev G s x with
  |some a=>match ev G s y with
   |some b=>Vv s.H (Yy op d a b)|none=>none
  |none=>none
 |.un op x=>match ev G s x with
  |some a=>M5 s.H (aun op a)|none=>none
 |.conv c x=>match ev G s x with
  |some a=>Qj s.H c a|none=>none
 |.fieldAddr off x=>match ev G s x with
  |some p=>M5 s.H (BX s.H off p)|none=>none
 |.idxSl k x i=>match ev G s x with
  |some a=>match ev G s i with
   |some (.int _ n)=>match a with
    |.row k' es=>cond (aA k k'&&bK 1 k) (some<|.val (.eptr (es.getD n.toNat .nilIf) 0) s.H [(0,n),(n+1,(N es:Nat))]) none|.hsl k' id off len _=>cond (aA k k'&&Lu s.H id) (some<|.val (.ptr id<|off+n.toNat*k) s.H [(0,n),(n+1,(len:Nat))]) (cond (aA k k'&&(aA off 0&&Qf s.H id (len*k))) (some<|.val (.optr id (n.toNat*k)<|len*k) s.H [(0,n),(n+1,(len:Nat))]) none)|_=>none
   |_=>none
  |none=>none
 |.idxArr m k x i=>match ev G s x with
  |some a=>match ev G s i with
   |some (.int _ n)=>match BX s.H (n.toNat*k) a with
    |some q=>some (.val q s.H [(0,n),(n+1,(m:Nat))])|none=>none
   |_=>none
  |none=>none
 |.idxStr x i=>match ev G s x with
  |some (.str l)=>match ev G s i with
   |some (.int _ n)=>some (.val (.int .u8 (l.getD n.toNat 0).toNat) s.H [(0,n),(n+1,(N l:Nat))])|_=>none
  |_=>none
 |.cutStr x lo hi=>match ev G s x with
  |some (.str l)=>match oev G s lo with
   |some a=>match oev G s hi with
    |some b=>some (.val (Bl l a b).1 s.H (Bl l a b).2)|none=>none
   |none=>none
  |_=>none
 |.cutSl k x lo hi=>match ev G s x with
  |some (.row k' es)=>match oev G s lo with
   |some a=>match oev G s hi with
    |some b=>cond (aA k k') (some<|.val (Di k es a b).1 s.H (Di k es a b).2) none|none=>none
   |none=>none
  |some (.hsl k' id off len cap)=>match oev G s lo with
   |some a=>match oev G s hi with
    |some b=>cond (aA k k') (Vv s.H<|CJ s.H k id off len cap a b) none|none=>none
   |none=>none
  |_=>none
 |.range x=>match ev G s x with
  |some (.str l)=>some (.val (.ptr (N s.H) 0) (s.H++[.iter l 0]) [])|_=>none
 |.next x=>match ev G s x with
  |some p=>match Wt s.H p with
   |some (v,H')=>some (.val v H' [])|none=>none
  |none=>none
 |.extract x i=>match ev G s x with
  |some t=>M5 s.H (Xc i t)|none=>none
 |.mkfn f first cap=>match evs G s first with
  |some a=>match evs G s cap with
   |some c=>some (.val (.fn f a c) s.H [])|none=>none
  |none=>none
 |.call f args=>match ev G s f with
  |some (.fn g first cap)=>match evs G s args with
   |some l=>some<|.call g<|first++l++cap
   |none=>none
  |_=>none
 |.append e k b x y=>match ev G s x with
  |some a=>match ev G s y with
   |some c=>match P4 e k b s.H a c with
    |some (v,H',side)=>some (.val v H' side)|none=>none
   |none=>none
  |none=>none
 |.len st x=>match ev G s x with
  |some (.str l)=>cond st (some<|.val (.int .i64<|N l) s.H []) none
  |some a=>cond st none (match NZ a with
   |some n=>some (.val (.int .i64 n) s.H [])|none=>none)
  |none=>none
 |.iface T x=>match ev G s x with
  |some a=>some (.val (.iface T a) s.H [])|none=>none
 |.mm big x y=>match ev G s x with
  |some (.int k a)=>match ev G s y with
   |some (.int _ b)=>some (.val (.int k<|cond (cond big (decide<|a<b)<|decide<|b<a) b a) s.H [])|_=>none
  |_=>none
 |.eqs neg e x y=>match ev G s x with
  |some a=>match ev G s y with
   |some b=>match aeq e a b with
    |some r=>some (.val (.bool<|cond neg (not r) r) s.H [])|none=>none
   |none=>none
  |none=>none
 |.field n agg off x=>match ev G s x with
  |some a=>M5 s.H (Jb n agg off a)|none=>none
 |.idxVal m n agg x i=>match ev G s x with
  |some a=>match ev G s i with
   |some (.int _ j)=>match Jb n agg (j.toNat*n) a with
    |some v=>some (.val v s.H [(0,j),(j+1,(m:Nat))])|none=>none
   |_=>none
  |none=>none
 |.cutArr n k x hi=>match ev G s x with
  |some p=>match oev G s hi with
   |some b=>Vv s.H (Wg s.H n k b p)|none=>none
  |none=>none
 |.clear k zs x=>match ev G s x with
  |some p=>match CE s.H k zs p with
   |some H'=>some (.val (.tup []) H' [])|none=>none
  |none=>none
 |.mkSl e k zs x y=>match ev G s x with
  |some (.int _ n)=>match ev G s y with
   |some (.int _ m)=>some (.val (.hsl k (N s.H) 0 n.toNat<|some n.toNat) (s.H++[.cells e (Iq zs<|n.toNat*k) false]) [(0,n),(n,1000000),(n,m),(m,n)])|_=>none
  |_=>none
 |.mkMap=>some<|.val (.mref<|N s.H) (s.H++[.mp []]) []
 |.mapUpd m k v=>match ev G s m with
  |some m=>match ev G s k with
   |some k=>match ev G s v with
    |some v=>match aupd s.H m k v with
     |some H'=>some (.skip H')|none=>none
    |none=>none
   |none=>none
  |none=>none
 |.mapGet m k=>match ev G s m with
  |some m=>match ev G s k with
   |some k=>M5 s.H (aget s.H m k)|none=>none
  |none=>none
 |.pan _=>none
 |.appS e x y=>match ev G s x with
  |some a=>match ev G s y with
   |some (.str l)=>match DO e s.H a l with
    |some (v,H',side)=>some (.val v H' side)|none=>none
   |_=>none
  |none=>none
 |.cut0 x=>match ev G s x with
  |some a=>M5 s.H (acut0 a)|none=>none
 |.tas T x=>match ev G s x with
  |some (.iface Ux u)=>cond (aA Ux T) (some<|.val (.tup [u,.bool true]) s.H []) none|_=>none
def L7 :Option Operand→Option (Option AOpd)
 |none=>some none|some x=>(An x).map some
def Jt (place:Nat→Option (Nat×Nat)):List (Nat×Operand)→Option (List<|Nat×Nat×AOpd)
 | []=>some []
 |(i,x)::r=>match place i with
  |some (o,n)=>match An x with
   |some y=>match Jt place r with
    |some l=>some ((o,n,y)::l)|none=>none
   |none=>none
  |none=>none
def PA (P:Program)(t:TypeId):Bool:=match P.underlying t with|some (.struct fs)=>(fs.toList.mapM λf=>(P.info? f.type).map λi=>(f.offset,i.size)).isSome|some (.array _ e)=>(P.info? e).isSome|_=>false
def CY :Operand→Bool
 |.const _=>true|_=>false
def eqK (P:Program)(t:TypeId)(y:Operand):Option TypeDesc:=match P.underlying t with|some .bool=>some .bool|some (.pointer e)=>some (.pointer e)|some (.slice e)=>some (.slice e)|some (.func a b c)=>some (.func a b c)|some (.interface m)=>cond (CY y) (some<|.interface m) none|_=>none
def Yr (P:Program)(src dst:TypeId):Option AConv:=
 match P.underlying src,P.underlying dst with
 |some (.int _),some (.int k)=>some (.int k)|some (.int _),some .string=>some .i2s|some .string,some .string=>some .same
 |some .string,some (.slice e)=>match P.underlying e with
  |some (.int .u8)=>some (.s2b e)|_=>none
 |some (.slice e),some .string=>match P.underlying e with
  |some (.int .u8)=>some .b2s|_=>none
 |_,_=>none
def eqsOf (P:Program)(op:BinOp)(t:TypeId):Option (Bool×EP):=
 match isSA P t with
 |true=>cond (P.eqGuardType P.depth t) none (match Yl P 100 t with
  |some e=>match op with
   |.eql=>some (false,e)|.neq=>some (true,e)|_=>none
  |none=>none)
 |false=>none
def Au (P:Program)(o:Op):Option AOp:=
 match o with
 |.move x|.assign x=>(An x).map .move|.pick c a b=>do some (.pick (←An c) (←An a)<|←An b)|.alloc T=>do some (.alloc T<|←Ez P T)|.box T x=>do some (.box T<|←An x)
 |.build t ps=>do
  if PA P t then some (.build (←Ez P t)<|←Jt (Su P t) ps.toList)else none
 |.buildSlice t len ps=>do
  let(e,k,_)←Gn P t
  if len*k≤16777216 then some (.bslice e k len (←Ez P e)<|←Jt (λi=>some (i*k,k)) ps.toList)else none
 |.load t a=>do
  let(n,agg)←Po P t
  some (.load n agg<|←An a)
 |.store t a x=>do
  let(n,_)←Po P t
  some (.store n (←An a)<|←An x)
 |.nilCheck x=>do some (.nilCheck<|←An x)|.binOp op t x y _=>match eqsOf P op t with|some (neg,e)=>do some (.eqs neg e (←An x)<|←An y)|none=>do some (.bin op (eqK P t y) (←An x)<|←An y)
 |.unOp op _ x=>do some (.un op<|←An x)|.convert src dst x=>do some (.conv (←Yr P src dst)<|←An x)|.fieldAddr s x f=>do some (.fieldAddr (←CT P s f)<|←An x)
 |.indexAddr t x i=>
  match F7 P t with
  |some (_,k)=>do some (.idxSl k (←An x)<|←An i)
  |none=>match Px P t with
   |some (n,k)=>do some (.idxArr n k (←An x)<|←An i)|none=>none
 |.index t x i=>
  match P.underlying t with
  |some .string=>do some (.idxStr (←An x)<|←An i)
  |some (.array m e)=>match Po P e with
   |some (n,g)=>do some (.idxVal m n g (←An x)<|←An i)|none=>none
  |_=>none
 |.field t x f=>
  match P.underlying t with
  |some (.struct fields)=>match fields[f]? with
   |some fd=>match Po P fd.type with
    |some (n,g)=>do some (.field n g fd.offset<|←An x)|none=>none
   |none=>none
  |_=>none
 |.slice t x lo hi none=>
  match P.underlying t with
  |some .string=>do some (.cutStr (←An x) (←L7 lo)<|←L7 hi)
  |_=>match F7 P t with
   |some (_,k)=>do some (.cutSl k (←An x) (←L7 lo)<|←L7 hi)
   |none=>match lo with
    |none=>match Px P t with
     |some (n,k)=>do some (.cutArr n k (←An x)<|←L7 hi)|none=>none
    |some _=>none
 |.panic x=>(An x).map .pan
 |.typeAssert x _ T true=>match P.underlying T with
  |some (.struct _)=>do some (.tas T<|←An x)|_=>none
 |.makeMap t none=>cond (V7 P t) (some .mkMap) none
 |.mapUpdate t m k v=>match V7 P t with
  |true=>do some (.mapUpd (←An m) (←An k)<|←An v)|false=>none
 |.lookup t m k false=>match V7 P t with
  |true=>do some (.mapGet (←An m)<|←An k)|false=>none
 |.slice t x none (some<|.const<|.int _ 0) (some<|.const<|.int _ 0)=>match F7 P t with
  |some _=>do some (.cut0<|←An x)|none=>none
 |.makeSlice t x y=>do
  let(e,k,b)←Gn P t
  if b≤1000 then some (.mkSl e k (←Ez P e) (←An x)<|←An y)else none
 |.call {callee:=.builtin .clear,args,argTypes}=>
  match args.toList,argTypes.toList with
  | [x],[t]=>do
   let(e,k,_)←Gn P t
   some (.clear k (←Ez P e)<|←An x)
  |_,_=>none
 |.range t x=>match P.underlying t with|some .string=>do some (.range<|←An x)|_=>none
 |.next x true=>do some (.next<|←An x)|.extract x i=>do some (.extract (←An x) i)
 |.makeInterface t x=>match P.underlying t with
  |some (.interface _)=>none|some _=>do some (.iface t<|←An x)|none=>none
 |.call {callee:=.builtin .max,args,..}=>match args.toList with| [x,y]=>do some (.mm true (←An x)<|←An y)|_=>none
 |.call {callee:=.builtin .min,args,..}=>match args.toList with| [x,y]=>do some (.mm false (←An x)<|←An y)|_=>none
 |.makeFunc (.func f) first cap=>do some (.mkfn f (←Kr first.toList)<|←Kr cap.toList)
 |.call {callee:=.value f,args,..}=>do some (.call (←An f)<|←Kr args.toList)
 |.call {callee:=.builtin .append,args,argTypes}=>
  match args.toList,argTypes.toList with
  | [x,y],[t,u]=>if t==u then do
   let(e,k,b)←Gn P t
   some (.append e k b (←An x)<|←An y)else match P.underlying u with
   |some .string=>match IJ P t with
    |some e=>do some (.appS e (←An x)<|←An y)|none=>none
   |_=>none
  |_,_=>none
 |.call {callee:=.builtin .len,args,argTypes}=>
  match args.toList,argTypes.toList with
  | [x],[t]=>match P.underlying t with
   |some .string=>do some (.len true<|←An x)|some (.slice _)=>do some (.len false<|←An x)|_=>none
  |_,_=>none
 |_=>none
theorem E9 {H:Hz}{x:Option AVal}{r:ARes}(h:M5 H x=some r):∃v,x=some v∧r= .val v H []:=by cases x<;>grind[M5]
theorem Q6 {H:Hz}{x:Option AV}{r:ARes}(h:Vv H x=some r):∃v side,x=some (v,side)∧r= .val v H side:=by cases x<;>grind[Vv]
section
variable {P : Program} {W0 : World} {G : List (Nat × AVal)} {bs : List Nat} {s : St} {a : Act} {w : World}
theorem Dy {o:Sem Value}{cv:Value}{w':World}(h:o.run P w= .ok cv w'):(do pure (.value<|←o):Sem Next).run P w= .ok (.value cv) w':=by simp[h]
theorem run_u {o:Sem Unit}{w':World}(h:o.run P w= .ok () w'):(do o;pure .skip:Sem Next).run P w= .ok .skip w':=by simp[h]
theorem BO (hg:GOK W0 G)(hs:RS W0 F bs s a w){place:Nat→Option (Nat×Nat)}:∀{ps:List (Nat×Operand)}{qs:List (Nat×Nat×AOpd)}{vs:List (Nat×Nat×AVal)},Jt place ps=some qs→Vz G s qs=some vs→
 N vs=N (ps.map λp=>(p.1,a.eval p.2))∧∀(j:Nat) (p:Nat×Value),(ps.map λp=>(p.1,a.eval p.2))[j]?=some p→∃q:Nat×Nat×AVal,vs[j]?=some q∧place p.1=some (q.1,q.2.1)∧Rep F bs s.H w q.2.2 p.2
 | [],qs,vs,hc,he=>by grind[Jt,Vz]
 |(i,x)::ps,qs,vs,hc,he=>by
  simp only[Jt]at hc;split at hc
  ·rename_i o n hp;split at hc
   ·rename_i y hy;split at hc
    ·rename_i l hl;injection hc with hc;subst hc;simp only[Vz]at he;split at he
     ·rename_i v hv;split at he;·rename_i l' hl';injection he with he;subst he;obtain⟨h1,h2⟩:=BO hg hs hl hl';refine⟨by grind,λj p hj=>?_⟩;cases j with|zero=>simp at hj;subst hj;exact⟨(o,n,v),Z,hp,Bd hg hs hy hv⟩|succ j=>exact h2 j p (by grind)
      ·cases he
     ·cases he
    ·cases hc
   ·cases hc
  ·cases hc
theorem Qr (hg:GOK W0 G)(hs:RS W0 F bs s a w){x:Option Operand}{y:Option AOpd}(hc:L7 x=some y){b:Option Int}(hv:oev G s y=some b):
 (b=none∧x.map a.eval=none)∨∃k n,b=some n∧x.map a.eval=some (.int k n):=by
 cases x with
 |none=>simp[L7]at hc;subst hc;simp[oev]at hv;exact .inl ⟨hv.symm,rfl⟩
 |some x=>
  simp only[L7,bT]at hc;obtain⟨y',hy,rfl⟩:=hc;simp only[oev]at hv;split at hv;·rename_i k n he;injection hv with hv;subst hv;have:=Bd hg hs hy he;grind[Rep]
  ·cases hv
theorem RR {t:TypeId}{y:Operand}{d:TypeDesc}(h:eqK P t y=some d):P.underlying t=some d∧∀ms,d= .interface ms→∃c,y= .const c:=by
 unfold eqK at h;split at h<;>first
  |(rename_i hu;injection h with h;subst h;exact⟨hu,λms e=>by cases e⟩)
  |(cases h;done)
  |skip
 rename_i m hu;cases hc:CY y with
 |false=>rw[hc]at h;cases h
 |true=>rw[hc]at h;injection h with h;subst h;refine⟨hu,λms _=>?_⟩;cases y<;>simp[CY]at hc;exact⟨_,Z⟩
theorem conv_ok (hh:Ae W0 F bs s.H w){src dst:TypeId}{c:AConv}(hc:Yr P src dst=some c){x:AVal}{cx:Value}(hx:Rep F bs s.H w x cx){r:ARes}
 (h:Qj s.H c x=some r):E6 P W0 F bs s.H w ((do pure (.value<|←convert src dst cx):Sem Next).run P w) r:=by
 unfold Yr at hc;cases hs:P.underlying src with
 |none=>rw[hs]at hc;cases hc
 |some ds=>
  cases hd:P.underlying dst with
  |none=>rw[hs,hd]at hc;cases ds<;>cases hc
  |some dd=>
   rw[hs,hd]at hc;cases ds<;>try (cases hc;done)
   case int k0=>
    cases dd<;>try (cases hc;done)
    case int k=>
     injection hc with hc;subst hc;cases x<;>simp only[Qj,JD]at h<;>try (cases h;done)
     injection h with h;subst h;rename_i _ n;simp only[Rep]at hx;subst hx;refine dX hh (cv:=.int k<|k.wrap n) (Dy ?_) Vy;simp_all[convert,A9,Conv.intToInt]
    case string=>
     injection hc with hc;subst hc;cases x<;>simp only[Qj,JE]at h<;>try (cases h;done)
     injection h with h;subst h;rename_i _ n;simp only[Rep]at hx;subst hx;refine dX hh (cv:=.string<|Utf8.encode n) (Dy ?_) Vy;simp_all[convert,A9,Conv.intToString]
   case string=>
    cases dd<;>try (cases hc;done)
    case string=>
     injection hc with hc;subst hc;cases x<;>simp only[Qj,IR]at h<;>try (cases h;done)
     injection h with h;subst h;simp only[Rep]at hx;subst hx;refine dX hh (Dy (cv:=.string _) ?_) (by simp only[Rep];rfl);simp_all[convert,A9]
    case slice e=>
     simp only at hc;split at hc
     ·rename_i he;injection hc with hc;subst hc;cases x<;>simp only[Qj,PQ]at h<;>try (cases h;done)
      injection h with h;subst h;simp only[Rep]at hx;subst hx;intro _;obtain⟨cv,w',bs',h1,h2,h3,h4⟩:=as2b_ok hh hs hd he _;exact⟨cv,w',bs',Dy h1,h2,h3,h4⟩
     ·cases hc
   case slice e=>
    cases dd<;>try (cases hc;done)
    case string=>
     simp only at hc;split at hc;·rename_i he;injection hc with hc;subst hc;simp only[Qj]at h;obtain⟨v,hv,rfl⟩:=E9 h;obtain⟨cv,h1,h2⟩:=ab2s_ok (P:=P) hh hs hd he hx hv<;>simp_all[dX]
     ·cases hc
theorem Vd {t:TypeId}{x:Operand}{lo hi:Option Operand}{mx:Operand}{ao:AOp}(hc:Au P (.slice t x lo hi<|some mx)=some ao):
 ∃k1 k2,lo=none∧hi=some (.const<|.int k1 0)∧mx= .const (.int k2 0)∧∃ek x',F7 P t=some ek∧An x=some x'∧ao= .cut0 x':=by
 unfold Au at hc;grind[eL]
theorem Ut (hg:GOK W0 G)(hs:RS W0 F bs s a w){o:Oper}{ao:AOp}(hc:Au P o.op=some ao){r:ARes}(h:aop G s ao=some r):
 E6 P W0 F bs s.H w ((execOp a.eval o).run P w) r:=by
 have hh:=hs.heap;obtain⟨dst,op,ty,pos,after,guard⟩:=o;simp only at hc;cases op<;>try (cases hc;done)
 case move x=>simp only[Au,bT]at hc;obtain⟨y,hy,rfl⟩:=hc;obtain⟨v,hv,rfl⟩:=E9 h;exact dX hh (cv:=a.eval x) Z<|Bd hg hs hy hv
 case assign x=>simp only[Au,bT]at hc;obtain⟨y,hy,rfl⟩:=hc;obtain⟨v,hv,rfl⟩:=E9 h;exact dX hh (cv:=a.eval x) Z<|Bd hg hs hy hv
 case pick c x y=>
  simp only[Au,oBb,oBi,iS]at hc;obtain⟨c',hc',x',hx',y',hy',rfl⟩:=hc;simp only[aop]at h;split at h;·rename_i t ht;obtain⟨v,hv,rfl⟩:=E9 h;have hcv:=Bd hg hs hc' ht;simp only[Rep]at hcv;cases t with|true=>exact dX hh (cv:=a.eval x) (by simp[execOp,hcv,asBool]) (Bd hg hs hx' hv)|false=>exact dX hh (cv:=a.eval y) (by simp[execOp,hcv,asBool])<|Bd hg hs hy' hv
  ·cases h
 case alloc T=>simp only[Au,oBb,oBi,iS]at hc;obtain⟨zs,hz,rfl⟩:=hc;simp only[aop,iS]at h;subst h;intro _;obtain⟨cv,w',bs',h1,h2⟩:=RN (P:=P) hh hz;exact⟨cv,w',bs',Dy h1,h2⟩
 case box T x=>
  simp only[Au,oBb,oBi,iS]at hc;obtain⟨x',hx',rfl⟩:=hc;simp only[aop]at h;split at h;·rename_i v hv;injection h with h;subst h;intro _;obtain⟨cv,w',bs',h1,h2⟩:=box_ok (P:=P) hh T<|Bd hg hs hx' hv;exact⟨cv,w',bs',Dy h1,h2⟩
  ·cases h
 case load t x=>
  simp only[Au,oBb,oBi,iS]at hc;obtain⟨⟨n,agg⟩,ht,x',hx',rfl⟩:=hc;simp only[aop]at h;split at h;·rename_i p hp;obtain⟨v,hv,rfl⟩:=E9 h;obtain⟨cv,h1,h2⟩:=GI hh ht (Bd hg hs hx' hp) hv;exact dX hh (Dy h1) h2
  ·cases h
 case store t x y=>
  simp only[Au,oBb,oBi,iS]at hc;obtain⟨⟨n,agg⟩,ht,x',hx',y',hy',rfl⟩:=hc;simp only[aop]at h;split at h
  ·rename_i p hp;split at h
   ·rename_i v hv;split at h;·rename_i H' hH;injection h with h;subst h;obtain⟨w',h1,h2,h3⟩:=MO (P:=P) hh ht (Bd hg hs hx' hp) (Bd hg hs hy' hv) hH;exact⟨w',bs,run_u h1,h2,h3⟩
    ·cases h
   ·cases h
  ·cases h
 case panic x=>grind[Au,bT,aop]
 case typeAssert x xt T ok=>
  cases ok<;>try (cases hc;done)
  simp only[Au]at hc;split at hc
  ·rename_i fs hu;simp only[oBb,oBi,iS]at hc;obtain⟨x',hx',rfl⟩:=hc;simp only[aop]at h;split at h
   ·rename_i Ux u hx;cases hb:aA Ux T with
    |false=>rw[hb]at h;cases h
    |true=>
     rw[hb,cond_true]at h;injection h with h;subst h;have hUT:=nBq hb;subst hUT;have hr:=Bd hg hs hx' hx;simp only[Rep]at hr;obtain⟨cu,hcv,hcu⟩:=hr;refine dX hh (Dy (cv:=.tuple #[cu,.bool true]) ?_) ?_;·simp[Instr.typeAssert,A9 w hu,hcv]
     ·grind[Rep,Ab]
   ·cases h
  ·cases hc
 case makeMap t r=>
  cases r<;>try (cases hc;done)
  simp only[Au]at hc;cases ht:V7 P t with
  |false=>rw[ht]at hc;cases hc
  |true=>rw[ht]at hc;simp only[cond_true,iS]at hc;subst hc;simp only[aop,iS]at h;subst h;intro _;obtain⟨cv,w',bs',h1,h2⟩:=QW (P:=P) hh (t:=t);exact⟨cv,w',bs',Dy h1,h2⟩
 case mapUpdate t m k v=>
  simp only[Au]at hc;split at hc
  ·rename_i ht;simp only[oBb,oBi,iS]at hc;obtain⟨m',hm',k',hk',v',hv',rfl⟩:=hc;simp only[aop]at h;split at h
   ·rename_i mm hmm;split at h
    ·rename_i kk hkk;split at h
     ·rename_i vv hvv;split at h;·rename_i H' hH;injection h with h;subst h;obtain⟨w',h1,h2,h3⟩:=aupd_ok (P:=P) hh ht (Bd hg hs hm' hmm) (Bd hg hs hk' hkk) (Bd hg hs hv' hvv) hH;exact⟨w',bs,run_u h1,h2,h3⟩
      ·cases h
     ·cases h
    ·cases h
   ·cases h
  ·cases hc
 case lookup t m k c=>
  cases c<;>try (cases hc;done)
  simp only[Au]at hc;split at hc
  ·rename_i ht;simp only[oBb,oBi,iS]at hc;obtain⟨m',hm',k',hk',rfl⟩:=hc;simp only[aop]at h;split at h
   ·rename_i mm hmm;split at h;·rename_i kk hkk;obtain⟨v,hv,rfl⟩:=E9 h;obtain⟨cv,h1,h2⟩:=aget_ok (P:=P) hh ht (Bd hg hs hm' hmm) (Bd hg hs hk' hkk) hv;exact dX hh (Dy h1) h2
    ·cases h
   ·cases h
  ·cases hc
 case nilCheck x=>
  simp only[Au,oBb,oBi,iS]at hc;obtain⟨x',hx',rfl⟩:=hc;simp only[aop]at h;split at h;·rename_i p hp;obtain⟨v,hv,rfl⟩:=E9 h;obtain⟨h1,h2⟩:=anil_ok (P:=P) (o:=⟨dst,.nilCheck x,ty,pos,after,guard⟩) rfl (Bd hg hs hx' hp) hv;exact dX hh h1 h2
  ·cases h
 case binOp op t x y yt=>
  simp only[Au]at hc;split at hc
  ·rename_i neg e hpl;simp only[oBb,oBi,iS]at hc;obtain⟨x',hx',y',hy',rfl⟩:=hc;simp only[aop]at h;split at h
   ·rename_i p hp;split at h
    ·rename_i q hq;split at h
     ·rename_i r' hr';injection h with h;subst h;unfold eqsOf at hpl;split at hpl
      ·rename_i hu;cases hgd:P.eqGuardType P.depth t with
       |true=>rw[hgd]at hpl;cases hpl
       |false=>
        rw[hgd,cond_false]at hpl;split at hpl
        ·rename_i e1 he1;have hop:e1=e∧((op= .eql∧neg=false)∨(op= .neq∧neg=true)):=by grind
         obtain⟨rfl,hop⟩:=hop;have:=eqs_ok (P:=P) (ox:=x) (oy:=y) hu hgd he1 hop (Bd hg hs hx' hp) (Bd hg hs hy' hq) hr';exact dX hh (Dy this) Zx
        ·cases hpl
      ·cases hpl
     ·cases h
    ·cases h
   ·cases h
  ·simp only[oBb,oBi,iS]at hc;obtain⟨x',hx',y',hy',rfl⟩:=hc;simp only[aop]at h;split at h
   ·rename_i p hp;split at h;·rename_i q hq;obtain⟨v,side,hv,rfl⟩:=Q6 h;intro hsd;obtain⟨cv,h1,h2⟩:=abin_ok (P:=P) (t:=t) (ox:=x) (oy:=y) (Bd hg hs hx' hp) (Bd hg hs hy' hq) hv hsd (λd' hd=>(RR hd).1)<|λms hm=>(RR hm).2 ms rfl;exact⟨cv,w,bs,Dy h1,h2,hh,eA _ _ _⟩
    ·cases h
   ·cases h
 case field t x f=>
  simp only[Au]at hc;split at hc
  ·rename_i fields hu;split at hc
   ·rename_i fd hfd;split at hc
    ·rename_i n g ht;simp only[oBb,oBi,iS]at hc;obtain⟨x',hx',rfl⟩:=hc;simp only[aop]at h;split at h;·rename_i p hp;obtain⟨v,hv,rfl⟩:=E9 h;obtain⟨us,ca,h0,h1,h2⟩:=Zu (P:=P) ht (Bd hg hs hx' hp) hv;refine dX hh (Dy ?_) h2;simp_all[Instr.field,A9,asAgg]
     ·cases h
    ·cases hc
   ·cases hc
  ·cases hc
 case unOp op t x=>
  simp only[Au,oBb,oBi,iS]at hc;obtain⟨x',hx',rfl⟩:=hc;simp only[aop]at h;split at h;·rename_i p hp;obtain⟨v,hv,rfl⟩:=E9 h;obtain⟨cv,h1,h2⟩:=aun_ok (P:=P) (Bd hg hs hx' hp) hv;exact dX hh (Dy h1) h2
  ·cases h
 case convert src dst' x=>
  simp only[Au,oBb,oBi,iS]at hc;obtain⟨c,hc',x',hx',rfl⟩:=hc;simp only[aop]at h;split at h;·rename_i p hp;exact conv_ok hh hc' (Bd hg hs hx' hp) h
  ·cases h
 case fieldAddr t x f=>
  simp only[Au,oBb,oBi,iS]at hc;obtain⟨off,hf,x',hx',rfl⟩:=hc;simp only[aop]at h;split at h;·rename_i p hp;obtain⟨v,hv,rfl⟩:=E9 h;obtain⟨cv,h1,h2⟩:=AO (P:=P) hf (Bd hg hs hx' hp) hv;exact dX hh (Dy h1) h2
  ·cases h
 case extract x i=>
  simp only[Au,oBb,oBi,iS]at hc;obtain⟨x',hx',rfl⟩:=hc;simp only[aop]at h;split at h;·rename_i p hp;obtain⟨v,hv,rfl⟩:=E9 h;obtain⟨cv,h1,h2⟩:=GR (P:=P) (Bd hg hs hx' hp) hv;exact dX hh (Dy h1) h2
  ·cases h
 case build t ps=>
  simp only[Au]at hc;split at hc
  ·rename_i hk;simp only[oBb,oBi,iS]at hc;obtain⟨zs,hz,ps',hps,rfl⟩:=hc;simp only[aop]at h;split at h
   ·rename_i qs hqs;split at h
    ·rename_i r' hr';injection h with h;subst h;obtain⟨hl,hp⟩:=BO hg hs hps hqs;have hlist:(ps.map λ(i,x)=>(i,a.eval x)).toList=ps.toList.map λp=>(p.1,a.eval p.2):=B4;have hkind:(∃fs,P.underlying t=some (.struct fs)∧(fs.toList.mapM<|λf=>(P.info? f.type).map λi=>(f.offset,i.size)).isSome=true)∨(∃n e,P.underlying t=some (.array n e)∧(P.info? e).isSome=true):=by grind[PA]
     obtain⟨cv,h1,h2⟩:=OG (P:=P) (ps:=ps.map λ(i,x)=>(i,a.eval x)) hz (λj p hj=>hp j p (by grind)) (by grind) hkind hr';exact dX hh (Dy h1) h2
    ·cases h
   ·cases h
  ·cases hc
 case buildSlice t len ps=>
  simp only[Au,oBb,oBi]at hc;obtain⟨⟨e,k,b⟩,ht,hc⟩:=hc;simp only at hc;split at hc
  ·rename_i hlen;simp only[oBi,iS]at hc;obtain⟨zs,hz,ps',hps,rfl⟩:=hc;simp only[aop]at h;split at h
   ·rename_i qs hqs;split at h;·rename_i r' hr';injection h with h;subst h;obtain⟨hl,hp⟩:=BO hg hs hps hqs;have hlist:(ps.map λ(i,x)=>(i,a.eval x)).toList=ps.toList.map λp=>(p.1,a.eval p.2):=B4;intro _;obtain⟨cv,w',bs',h1,h2⟩:=HV (P:=P) hh ht hz hlen (ps:=ps.map λ(i,x)=>(i,a.eval x)) (λj p hj=>by grind) (by grind) hr';exact⟨cv,w',bs',Dy h1,h2⟩
    ·cases h
   ·cases h
  ·cases hc
 case makeFunc fn first cap=>
  cases fn<;>try (cases hc;done)
  case func f=>
   simp only[Au,oBb,oBi,iS]at hc;obtain⟨x',hx',y',hy',rfl⟩:=hc;simp only[aop]at h;split at h
   ·rename_i p hp;split at h;·rename_i q hq;injection h with h;subst h;have h1:=CI hg hs hx' hp;have h2:=CI hg hs hy' hq;refine dX hh (cv:=.func (.func f) (first.map a.eval)<|cap.map a.eval) Z ?_;grind[Rep,Array.toList_map]
    ·cases h
   ·cases h
 case range t x=>
  simp only[Au]at hc;split at hc
  ·rename_i hu;simp only[oBb,oBi,iS]at hc;obtain⟨x',hx',rfl⟩:=hc;simp only[aop]at h;split at h;·rename_i l hl;injection h with h;subst h;have:=Bd hg hs hx' hl;simp only[Rep]at this;intro _;obtain⟨cv,w',bs',h1,h2⟩:=NL (P:=P) hh hu (s:=l);exact⟨cv,w',bs',Dy (by grind),h2⟩
   ·cases h
  ·cases hc
 case next x st=>
  cases st<;>try (cases hc;done)
  simp only[Au,oBb,oBi,iS]at hc;obtain⟨x',hx',rfl⟩:=hc;simp only[aop]at h;split at h
  ·rename_i p hp;split at h;·rename_i v H' hn;injection h with h;subst h;intro _;obtain⟨cv,w',h1,h2⟩:=UT (P:=P) (T:=ty) hh (Bd hg hs hx' hp) hn;exact⟨cv,w',bs,Dy h1,h2⟩
   ·cases h
  ·cases h
 case index t x i=>
  simp only[Au]at hc;split at hc
  ·rename_i hu;simp only[oBb,oBi,iS]at hc;obtain⟨x',hx',i',hi',rfl⟩:=hc;simp only[aop]at h;split at h
   ·rename_i l hl;split at h;·rename_i k n hn;injection h with h;subst h;have h1:=Bd hg hs hx' hl;have h2:=Bd hg hs hi' hn;simp only[Rep]at h1 h2;intro hsd;obtain⟨cv,hr1,hr2⟩:=IM (P:=P) (F:=F) (w:=w) (bs:=bs) (H:=s.H) (k:=k) hu hsd.1 hsd.2.1;exact⟨cv,w,bs,Dy (by grind),hr2,hh,eA _ _ _⟩
    ·cases h
   ·cases h
  ·rename_i m e hu;split at hc
   ·rename_i n g ht;simp only[oBb,oBi,iS]at hc;obtain⟨x',hx',i',hi',rfl⟩:=hc;simp only[aop]at h;split at h
    ·rename_i p hp;split at h
     ·rename_i k0 j0 hj;split at h
      ·rename_i v hv;injection h with h;subst h;intro hsd;have h2:=Bd hg hs hi' hj;simp only[Rep]at h2;obtain⟨us,ca,h0,h1,h3⟩:=Zu (P:=P) ht (Bd hg hs hx' hp) hv;refine⟨ca,w,bs,Dy ?_,h3,hh,eA _ _ _⟩;have hii:0≤j0∧j0<(m:Int):=by have a1:=hsd.1;have a2:=hsd.2.1<;>grind
       simp only[Instr.index,asIntOf,h2,h0,sRb,aQ,rAo,A9 w hu,hii,and_self,if_true,(Si w ht).2];exact h1
      ·cases h
     ·cases h
    ·cases h
   ·cases hc
  ·cases hc
 case slice t x lo hi mx=>
  cases mx with
  |some mx=>
   obtain⟨k1,k2,rfl,rfl,rfl,⟨e,k⟩,x',ht,hx',rfl⟩:=Vd hc;simp only[aop]at h;split at h
   ·rename_i u hu;obtain⟨v,hv,rfl⟩:=E9 h;obtain⟨h1,h2⟩:=Gm ht;have hr:=Bd hg hs hx' hu;have key:∀ad n c,a.eval x= .slice ad n c→(execOp a.eval ⟨dst,.slice t x none (some<|.const<|.int k1 0)<|some<|.const<|.int k2 0,ty,pos,after,guard⟩).run P w= .ok (.value<|.slice ad 0 0) w:=by intro ad n c hcx;refine Dy ?_;have hev:∀v,a.eval (.const v)=v:=λ_=>rfl<;>simp_all[Instr.sliceAt,A9,Instr.slice,Instr.sliceBounds,Instr.sliceBound,asIntOf]
    cases u<;>simp only[acut0]at hv<;>try (cases hv;done)
    case nilSl=>grind[Rep,dX]
    case emp=>grind[Rep,dX]
    case row k es=>
     cases es with
     |nil=>cases hv
     |cons e1 es=>injection hv with hv;subst hv;simp only[Rep]at hr;obtain⟨ad,cap,vs,hr,hl,_,hrow⟩:=hr;have hll:=hl.length;cases ad with|none=>have:=hrow.1;subst this;simp at hll|some ad=>exact dX hh (key _ _ _ hr) (by grind[Rep])
    grind[Rep,dX]
   ·cases h
  |none=>
  simp only[Au]at hc;split at hc
  ·rename_i hu;simp only[oBb,oBi,iS]at hc;obtain⟨x',hx',lo',hlo',hi',hhi',rfl⟩:=hc;simp only[aop]at h;split at h
   ·rename_i l hl;split at h
    ·rename_i la hla;split at h;·rename_i ha hha;injection h with h;subst h;have h1:=Bd hg hs hx' hl;simp only[Rep]at h1;intro hsd;obtain⟨cv,hr1,hr2⟩:=GY (P:=P) (F:=F) (w:=w) (bs:=bs) (H:=s.H) hu (Qr hg hs hlo' hla) (Qr hg hs hhi' hha) rfl hsd;exact⟨cv,w,bs,Dy (by grind),hr2,hh,eA _ _ _⟩
     ·cases h
    ·cases h
   ·cases h
  ·split at hc
   ·rename_i e k ht;simp only[oBb,oBi,iS]at hc;obtain⟨x',hx',lo',hlo',hi',hhi',rfl⟩:=hc;simp only[aop]at h;split at h
    ·rename_i k' es hl;split at h
     ·rename_i la hla;split at h
      ·rename_i ha hha;cases hk:aA k k' with
       |false=>rw[hk]at h;cases h
       |true=>rw[hk,cond_true]at h;have:=nBq hk;subst this;injection h with h;subst h;intro hsd;obtain⟨cv,hr1,hr2⟩:=HI (P:=P) ht (Bd hg hs hx' hl) (Qr hg hs hlo' hla) (Qr hg hs hhi' hha) rfl hsd;exact⟨cv,w,bs,Dy hr1,hr2,hh,eA _ _ _⟩
      ·cases h
     ·cases h
    ·rename_i k' id off len cap hl;split at h
     ·rename_i la hla;split at h
      ·rename_i ha hha;cases hk:aA k k' with
       |false=>rw[hk]at h;cases h
       |true=>rw[hk,cond_true]at h;have:=nBq hk;subst this;obtain⟨v,side,hv,rfl⟩:=Q6 h;intro hsd;obtain⟨cv,hr1,hr2⟩:=JG (P:=P) ht (Bd hg hs hx' hl) (Qr hg hs hlo' hla) (Qr hg hs hhi' hha) hv hsd;exact⟨cv,w,bs,Dy hr1,hr2,hh,eA _ _ _⟩
      ·cases h
     ·cases h
    ·cases h
   ·cases lo with
    |some lo=>cases hc
    |none=>
     simp only at hc;split at hc
     ·rename_i n k ht;simp only[oBb,oBi,iS]at hc;obtain⟨x',hx',hi',hhi',rfl⟩:=hc;simp only[aop]at h;split at h
      ·rename_i p hp;split at h;·rename_i b hb;obtain⟨v,side,hv,rfl⟩:=Q6 h;intro hsd;obtain⟨cv,hr1,hr2⟩:=IY (P:=P) ht (Bd hg hs hx' hp) (Qr hg hs hhi' hb) hv hsd;exact⟨cv,w,bs,Dy hr1,hr2,hh,eA _ _ _⟩
       ·cases h
      ·cases h
     ·cases hc
 case makeSlice t x y=>
  simp only[Au,oBb,oBi]at hc;obtain⟨⟨e,k,b⟩,ht,hc⟩:=hc;simp only at hc;split at hc
  ·rename_i hb;simp only[oBi,iS]at hc;obtain⟨zs,hz,x',hx',y',hy',rfl⟩:=hc;simp only[aop]at h;split at h
   ·rename_i k1 n hn;split at h;·rename_i k2 m hm;injection h with h;subst h;have h1:=Bd hg hs hx' hn;have h2:=Bd hg hs hy' hm;simp only[Rep]at h1 h2;intro hsd;obtain⟨s1,s2,s3,s4,_⟩:=hsd;have hnm:m=n:=Int.le_antisymm s4 s3;subst hnm;obtain⟨cv,w',bs',hr1,hr2⟩:=TW (P:=P) hh ht hz (j:=k1) (j':=k2) s1 s2 hb;exact⟨cv,w',bs',Dy (by grind),hr2⟩
    ·cases h
   ·cases h
  ·cases hc
 case indexAddr t x i=>
  simp only[Au]at hc;split at hc
  ·rename_i e k ht;simp only[oBb,oBi,iS]at hc;obtain⟨x',hx',i',hi',rfl⟩:=hc;simp only[aop]at h;split at h
   ·rename_i p hp;split at h
    ·rename_i k2 n hn;have h1:=Bd hg hs hx' hp;have h2:=Bd hg hs hi' hn;simp only[Rep]at h2;split at h
     ·rename_i k' es;cases hk:(aA k k'&&bK 1 k)with
      |false=>rw[hk]at h;cases h
      |true=>rw[hk,cond_true]at h;simp only[bAt]at hk;have:=nBq hk.1;subst this;injection h with h;subst h;intro hsd;obtain⟨cv,hr1,hr2⟩:=JF (P:=P) (k:=k2) ht (Nat.le_of_ble_eq_true hk.2) h1 hsd.1 hsd.2.1 .nilIf;exact⟨cv,w,bs,Dy (by grind),hr2,hh,eA _ _ _⟩
     ·rename_i k' id off len cap;cases hk:(aA k k'&&Lu s.H id)with
      |false=>
       rw[hk,cond_false]at h;cases hk2:(aA k k'&&(aA off 0&&Qf s.H id (len*k)))with
       |false=>rw[hk2]at h;cases h
       |true=>rw[hk2,cond_true]at h;simp only[bAt]at hk2;have:=nBq hk2.1;subst this;have:=nBq hk2.2.1;subst this;injection h with h;subst h;intro hsd;obtain⟨cv,hr1,hr2⟩:=GG (P:=P) (k:=k2) ht hk2.2.2 h1 hsd.1 hsd.2.1;exact⟨cv,w,bs,Dy (by grind),hr2,hh,eA _ _ _⟩
      |true=>rw[hk,cond_true]at h;simp only[bAt]at hk;have:=nBq hk.1;subst this;injection h with h;subst h;intro hsd;obtain⟨cv,hr1,hr2⟩:=HF (P:=P) (k:=k2) ht hk.2 h1 hsd.1 hsd.2.1;exact⟨cv,w,bs,Dy (by grind),hr2,hh,eA _ _ _⟩
     ·cases h
    ·cases h
   ·cases h
  ·split at hc
   ·rename_i m k ht;simp only[oBb,oBi,iS]at hc;obtain⟨x',hx',i',hi',rfl⟩:=hc;simp only[aop]at h;split at h
    ·rename_i p hp;split at h
     ·rename_i k2 n hn;have h1:=Bd hg hs hx' hp;have h2:=Bd hg hs hi' hn;simp only[Rep]at h2;split at h;·rename_i q hq;injection h with h;subst h;intro hsd;obtain⟨cv,hr1,hr2⟩:=GW (P:=P) (k:=k2) ht h1 hsd.1 hsd.2.1 hq;exact⟨cv,w,bs,Dy (by grind),hr2,hh,eA _ _ _⟩
      ·cases h
     ·cases h
    ·cases h
   ·cases hc
 case makeInterface t x=>
  simp only[Au]at hc;split at hc;·cases hc
  ·rename_i d hni hu;simp only[oBb,oBi,iS]at hc;obtain⟨x',hx',rfl⟩:=hc;simp only[aop]at h;split at h;·rename_i p hp;injection h with h;subst h;have h1:=Bd hg hs hx' hp;refine dX hh (cv:=.iface t<|a.eval x) (Dy ?_) (by grind[Rep]);simp_all[Instr.makeInterface,A9]
   ·cases h
  ·cases hc
 case call c=>
  obtain⟨callee,args,ats⟩:=c;cases callee<;>try (cases hc;done)
  case value f=>
   simp only[Au,oBb,oBi,iS]at hc;obtain⟨f',hf',args',hargs',rfl⟩:=hc;simp only[aop]at h;split at h
   ·rename_i g first cap hfv
    split at h;·rename_i l hl;injection h with h;subst h;intro hb;have h1:=Bd hg hs hf' hfv;have h2:=CI hg hs hargs' hl;obtain⟨us,hr1,hr2⟩:=PP (P:=P) h1 h2 hb;refine⟨us,?_,hr2⟩;simp only[execOp,Z1];rw[show args.map a.eval=(args.toList.map a.eval).toArray by grind]<;>grind
    ·cases h
   ·cases h
  case builtin b=>
   cases b<;>try (cases hc;done)
   case append=>
    simp only[Au]at hc;split at hc
    ·rename_i x y t u hx hy;split at hc
     ·rename_i htu;have htu':t=u:=by grind
      subst htu';simp only[oBb,oBi,iS]at hc;obtain⟨⟨e,k,b⟩,ht,x',hx',y',hy',rfl⟩:=hc;simp only[aop]at h;split at h
      ·rename_i p hp;split at h
       ·rename_i q hq;split at h
        ·rename_i v H' side hv;injection h with h;subst h;intro hsd;obtain⟨cv,w',bs',h1,h2⟩:=aapp_ok (P:=P) (ty:=ty) hh ht (Bd hg hs hx' hp) (Bd hg hs hy' hq) hv hsd;refine⟨cv,w',bs',?_,h2⟩;have ha:args= #[x,y]:=by grind
         have hat:ats= #[t,t]:=by grind
         grind[execOp,resolve,cG,aQ,bG,invoke,builtin]
        ·cases h
       ·cases h
      ·cases h
     ·split at hc
      ·rename_i hus;split at hc
       ·rename_i e hbs;simp only[oBb,oBi,iS]at hc;obtain⟨x',hx',y',hy',rfl⟩:=hc;simp only[aop]at h;split at h
        ·rename_i p hp;split at h
         ·rename_i l hq;split at h
          ·rename_i v H' side hv;injection h with h;subst h;intro hsd;have hys:=Bd hg hs hy' hq;simp only[Rep]at hys;obtain⟨cv,w',bs',h1,h2⟩:=TS (P:=P) (ty:=ty) hh hbs hus (Bd hg hs hx' hp) hv hsd;refine⟨cv,w',bs',?_,h2⟩;have ha:args= #[x,y]:=by grind
           have hat:ats= #[t,u]:=by grind
           grind[execOp,resolve,cG,aQ,bG,invoke,builtin]
          ·cases h
         ·cases h
        ·cases h
       ·cases hc
      ·cases hc
    ·cases hc
   case clear=>
    simp only[Au]at hc;split at hc
    ·rename_i x t hx hy;simp only[oBb,oBi,iS]at hc;obtain⟨⟨e,k,b⟩,ht,zs,hz,x',hx',rfl⟩:=hc;simp only[aop]at h;split at h
     ·rename_i p hp;split at h
      ·rename_i H' hv;injection h with h;subst h;intro _;obtain⟨w',h1,h2⟩:=NN (P:=P) (ty:=ty) hh ht hz (Bd hg hs hx' hp) hv;have ha:args= #[x]:=by grind
       have hat:ats= #[t]:=by grind
       subst ha;subst hat;refine⟨.tuple #[],w',bs,?_,by simp[Rep,Ab],h2⟩;grind[execOp,resolve,cG,aQ,bG,invoke,builtin]
      ·cases h
     ·cases h
    ·cases hc
   case max=>
    simp only[Au]at hc;split at hc
    ·rename_i x y hx;have ha:args= #[x,y]:=by grind
     subst ha;simp only[oBb,oBi,iS]at hc;obtain⟨x',hx',y',hy',rfl⟩:=hc;simp only[aop]at h;split at h
     ·rename_i k m hm;split at h
      ·rename_i k2 n hn;injection h with h;subst h;have h1:=Bd hg hs hx' hm;have h2:=Bd hg hs hy' hn;simp only[Rep]at h1 h2;refine dX hh (cv:=.int k (if m<n then n else m)) ?_ ?_;·simp only[execOp,resolve,sRb,aQ,rAo,invoke,builtin];simp only[List.map_toArray,List.map_cons,List.map_nil,h1,h2,Builtin.max_];rfl
       simp_all[Rep]
      ·cases h
     ·cases h
    ·cases hc
   case min=>
    simp only[Au]at hc;split at hc
    ·rename_i x y hx;have ha:args= #[x,y]:=by grind
     subst ha;simp only[oBb,oBi,iS]at hc;obtain⟨x',hx',y',hy',rfl⟩:=hc;simp only[aop]at h;split at h
     ·rename_i k m hm;split at h
      ·rename_i k2 n hn;injection h with h;subst h;have h1:=Bd hg hs hx' hm;have h2:=Bd hg hs hy' hn;simp only[Rep]at h1 h2;refine dX hh (cv:=.int k (if n<m then n else m)) ?_ ?_;·simp only[execOp,resolve,sRb,aQ,rAo,invoke,builtin];simp only[List.map_toArray,List.map_cons,List.map_nil,h1,h2,Builtin.min_];rfl
       simp_all[Rep]
      ·cases h
     ·cases h
    ·cases hc
   case len=>
    simp only[Au]at hc;split at hc
    ·rename_i x t hx hy;have ha:args= #[x]:=by grind
     have hat:ats= #[t]:=by grind
     subst ha;subst hat;have fin:∀(v:AVal) (n:Int),Rep F bs s.H w v (a.eval x)→NZ v=some n→(∃d,P.underlying t=some d∧((d= .string∧∃s,v= .str s)∨((∃e,d= .slice e)∧∀s,v≠ .str s)))→
      E6 P W0 F bs s.H w ((execOp a.eval ⟨dst,.call {callee:=.builtin .len,args:=#[x],argTypes:=#[t]},ty,pos,after,guard⟩).run P w) (.val (.int .i64 n) s.H []):=by
      intro v n hv hn hd;refine dX hh (cv:=.int .i64 n) ?_ Vy;have:=alen_ok (P:=P) (T:=ty) (xs:=#[a.eval x]) (ts:=#[t]) hv hn Z Z hd;grind[execOp,resolve,cG,aQ,bG,invoke,builtin]
     split at hc
     ·rename_i hu;simp only[oBb,oBi,iS]at hc;obtain⟨x',hx',rfl⟩:=hc;simp only[aop]at h;split at h;·rename_i l hl;simp only[cond_true,iS]at h;subst h;exact fin _ _ (Bd hg hs hx' hl) Z ⟨_,hu,.inl ⟨Z,_,Z⟩⟩
      all_goals grind
     ·rename_i e hu;simp only[oBb,oBi,iS]at hc;obtain⟨x',hx',rfl⟩:=hc;simp only[aop]at h;split at h;·cases h
      ·rename_i p hns hp;simp only[cond_false]at h;grind[Bd]
      ·cases h
     ·cases hc
    ·cases hc
theorem ID {op:Op}{x:AOpd}(h:Au P op=some (.pan x)):∃y,op= .panic y∧An y=some x:=by
 cases op<;>try (cases h;done)
 case panic y=>grind[Au,bT]
 case typeAssert x t T b=>cases b<;>grind[Au,eL]
 case makeMap t r=>cases r<;>simp[Au]at h;grind
 case call c=>exfalso;unfold Au at h;split at h<;>(try (rename_i heq;cases heq))<;>(try (cases h;done))<;>(repeat' (split at h))<;>(try (cases h;done))<;>simp[oBi]at h
 case slice t x lo hi m=>
  exfalso;cases m with
  |some m=>obtain⟨_,_,_,_,_,_,_,_,_,h⟩:=Vd h;cases h
  |none=>
  simp only[Au]at h<;>(repeat' (split at h))<;>(try (cases h;done))<;>simp[oBi]at h
 all_goals exfalso
 all_goals(simp only[Au]at h)
 all_goals(repeat' (split at h))
 all_goals(try (cases h;done))
 all_goals(try (simp[oBi]at h;done))
 all_goals contradiction
end
end Go.Abs
namespace Go.Abs
open Go.RowKit
inductive Aj where
 |normal|exit (id:Nat)|ret
abbrev CallF :=FuncId→List AVal→Hz→Option (AVal×Hz)
def St.put (s:St)(dst:Option Nat)(v:AVal)(H:Hz):Option St:=match dst with|none=>some ⟨s.env,H,s.n⟩|some d=>cond (bB d s.n&&bB d 4094) (some ⟨Env.put 12 d v s.env,H,s.n⟩) none
def leB (p:Int×Int):Bool:=decide<|p.1≤p.2
def Qn :List (Int×Int)→Bool
 | []=>true|p::r=>cond (leB p) (Qn r) false
def DM (call:CallF)(H:Hz):Option ARes→Option (AVal×Hz)
 |some (.val v H' side)=>cond (Qn side) (some (v,H')) none|some (.skip H')=>some (.tup [],H')|some (.call f args)=>call f args H|none=>none
def D9 (ops:Array Oper)(s:St):Option (Nat×Bool)→Option Bool
 |none=>some true
 |some (j,want)=>match(ops[j]?).bind (·.dst)with
  |some d=>match s.env.get d with
   |some (.bool b)=>some (cond b want<|not want)|some (.tup [])=>some false|_=>none
  |none=>none
def DT (P:Program)(G:List<|Nat×AVal)(call:CallF)(ops:Array Oper)(o:Oper)(s:St):Option St:=
 match D9 ops s o.guard with
 |some true=>match Au P o.op with
  |some op=>match DM call s.H (aop G s op)with
   |some (v,H')=>s.put o.dst v H'|none=>none
  |none=>none
 |some false=>s.put o.dst (.tup []) s.H|none=>none
def Yp (P:Program)(G:List<|Nat×AVal)(call:CallF)(ops:Array Oper):List Oper→St→Option St
 | [],s=>some s
 |o::r,s=>match DT P G call ops o s with
  |some s'=>Yp P G call ops r s'|none=>none
def FI (body:St→Option (Aj×St)):Nat→St→Option (Aj×St)
 |0,_=>none
 |n+1,s=>match body s with
  |some (.normal,s')=>FI body n s'|r=>r
def EI (P:Program)(G:List<|Nat×AVal)(call:CallF)(draw:Array Oper→St→Option St)(ih:Code→St→Option (Aj×St)):Code→St→Option (Aj×St)
 |.skip,s=>some (.normal,s)
 |.region _ ops d,s=>match cond d (draw ops s) (Yp P G call ops ops.toList s)with
  |some s'=>some (.normal,s')|none=>none
 |.seq x y,s=>match ih x s with
  |some (.normal,s')=>ih y s'|r=>r
 |.cond c x y,s=>match An c with
  |some c'=>match ev G s c' with
   |some (.bool b)=>cond b (ih x s) (ih y s)|_=>none
  |none=>none
 |.block id c,s=>match ih c s with
  |some (.exit j,s')=>cond (aA j id) (some (.normal,s')) (some (.exit j,s'))|r=>r
 |.loop c,s=>FI (ih c) 1000000 s|.exit id,s=>some (.exit id,s)|.ret,s=>some (.ret,s)|_,_=>none
def W3 (P:Program)(G:List<|Nat×AVal)(call:CallF)(draw:Array Oper→St→Option St):Nat→Code→St→Option (Aj×St)
 |0,_,_=>none|n+1,c,s=>EI P G call draw (W3 P G call draw n) c s
def Ry (P:Program)(s:St):ResultVar→Option AVal
 |.tmp t=>s.env.get t
 |.cell a t=>match s.env.get a with
  |some p=>match Po P t with
   |some (n,agg)=>Jf n agg s.H p|none=>none
  |none=>none
def Dk (P:Program)(s:St):List ResultVar→Option (List AVal)
 | []=>some []
 |r::rs=>match Ry P s r with
  |some v=>match Dk P s rs with
   |some vs=>some (v::vs)|none=>none
  |none=>none
def Cb :List AVal→AVal
 | [v]=>v|vs=>.tup vs
def Gg :Nat→List AVal→Env→Env
 |_,[],e=>e|i,v::r,e=>Gg (i+1) r<|Env.put 12 i v e
def Da (k:Nat):Nat→List AVal→List AVal
 |0,_=>[]|m+1,cs=>(cond (aA k 1) (cond (cs.headD .nilIf).one (cs.headD .nilIf)<|.agg<|cs.take k)<|.agg<|cs.take k)::Da k m (cs.drop k)
mutual
def frz (H : Hz) (n : Nat) : Nat → AVal → Option AVal
  | 0, _ => none
  | m + 1, v => match v with
    | .agg cs => match He H n m cs with
      | some cs' => some (.agg cs')
      | none => none
    | .tup cs => match He H n m cs with
      | some cs' => some (.tup cs')
      | none => none
    | .row k es => match He H n m es with
      | some es' => some (.row k es')
      | none => none
    | .hsl k id off len cap => cond (Nat.blt id n) (some (.hsl k id off len cap)) (cond (Nat.ble 1 k) (match H[id]? with
      | some (.cells _ cs false) => match He H n m (Da k len (cs.drop off)) with
        | some es => some (.row k es)
        | none => none
      | some (.cells _ cs true) => cond (Nat.beq off 0 && Nat.beq (len * k) (N cs)) (match He H n m (Da k len cs) with
        | some es => some (.row k es)
        | none => none) none
      | _ => none) none)
    | .ptr id off => cond (Nat.blt id n) (some (.ptr id off)) none
    | .mref id => cond (Nat.blt id n) (some (.mref id)) none
    | .optr id off len => cond (Nat.blt id n) (some (.optr id off len)) none
    | .eptr e off => match frz H n m e with
      | some e' => some (.eptr e' off)
      | none => none
    | .fn f a c => match He H n m a with
      | some a' => match He H n m c with
        | some c' => some (.fn f a' c')
        | none => none
      | none => none
    | .iface t x => match frz H n m x with
      | some x' => some (.iface t x')
      | none => none
    | v => some v
def He (H : Hz) (n : Nat) : Nat → List AVal → Option (List AVal)
  | 0, _ => none
  | _ + 1, [] => some []
  | m + 1, v :: r => match frz H n m v with
    | some v' => match He H n m r with
      | some r' => some (v' :: r')
      | none => none
    | none => none
end
mutual
def blw (n : Nat) : AVal → Bool
  | .agg cs => A8 n cs
  | .tup cs => A8 n cs
  | .row _ es => A8 n es
  | .hsl _ id _ _ _ => Nat.blt id n
  | .ptr id _ => Nat.blt id n
  | .mref id => Nat.blt id n
  | .optr id _ _ => Nat.blt id n
  | .eptr e _ => blw n e
  | .fn _ a c => cond (A8 n a) (A8 n c) false
  | .iface _ x => blw n x
  | _ => true
def A8 (n : Nat) : List AVal → Bool
  | [] => true
  | v :: r => cond (blw n v) (A8 n r) false
end
def B7 (n:Nat):Hz→Bool
 | []=>true|.cells _ cs _::r=>cond (A8 n cs) (B7 n r) false|_::r=>B7 n r
def Ls (n:Nat)(v:AVal)(H:Hz):AVal×Hz:=
 cond (bK (N H) n) (v,H) (cond (B7 n (H.take n)) (match frz H n 100000 v with
  |some v'=>(v',H.take n)|none=>(v,H)) (v,H))
def A5 (P:Program)(W0:World)(f:FuncId)(args:List AVal)(H:Hz)(v:AVal)(H':Hz):Prop:=
 E1 P f∧∀(F:Nat→Prop) (bs:List Nat) (w:World) (cargs:List Value),Ae W0 F bs H w→Ab F bs H w args cargs→
  Calls P f cargs.toArray w λe w'=>∃cv bs',e= .returned cv∧Rep F bs' H' w' v cv∧Ae W0 F bs' H' w'∧Ext bs H w bs' H' w'
section
variable (P : Program) (W0 : World) (G : List (Nat × AVal)) (ops : Array Oper)
def Ru (s:St)(dst:Option Nat)(v:AVal)(H:Hz)(K:St→Prop):Prop:=match dst with|none=>K ⟨s.env,H,s.n⟩|some d=>(bB d s.n&&bB d 4094)=true∧K ⟨Env.put 12 d v s.env,H,s.n⟩
def Ic (H:Hz)(r:Option ARes)(K:AVal→Hz→Prop):Prop:=match r with|some (.val v H' side)=>Ah side∧K v H'|some (.skip H')=>K (.tup []) H'|some (.call f args)=>∃v H',A5 P W0 f args H v H'∧K v H'|none=>False
def J6 (o:Oper)(s:St)(K:St→Prop):Prop:=
 match D9 ops s o.guard with
 |some true=>match Au P o.op with
  |some op=>Ic P W0 s.H (aop G s op) λv H'=>Ru s o.dst v H' K|none=>False
 |some false=>Ru s o.dst (.tup []) s.H K|none=>False
def Pm :List Oper→St→(St→Prop)→Prop
 | [],s,K=>K s|o::r,s,K=>J6 P W0 G ops o s λs'=>Pm r s' K
end
section
variable {P : Program} {W0 : World} {G : List (Nat × AVal)} {F : Nat → Prop} {bs : List Nat} {s : St} {a : Act} {w : World} {ops : Array Oper}
theorem RS.put (hs:RS W0 F bs s a w){bs':List Nat}{H':Hz}{w':World}{v:AVal}{cv:Value}(hv:Rep F bs' H' w' v cv)(hh:Ae W0 F bs' H' w')(he:Ext bs s.H w bs' H' w')
 {dst:Option Tmp}{K:St→Prop} (h:Ru s dst v H' K):∃s',K s'∧RS W0 F bs' s' (a.put dst cv) w'∧s'.H=H':=by
 cases dst with
 |none=>exact⟨_,h,⟨hh,hs.size,λt u hu=>(hs.env t u hu).ext he⟩,rfl⟩
 |some d=>
  obtain⟨hd,hk⟩:=h;have hd:d<s.n∧d<4094:=by simp_all
  refine⟨_,hk,⟨hh,by simp[Act.put,hs.size],λt u hu=>?_⟩,rfl⟩;rw[eQ 12 d v s.env t<|eN (eP hd.2) 2]at hu;by_cases htd:t=d
  ·subst htd;rw[if_pos rfl]at hu;injection hu with hu;subst hu;have hget:(a.put (some t) cv).tmps.getD t undef=cv:=by simp only[Act.put,eJ];rw[Array.getElem?_setIfInBounds_self_of_lt (by rw[hs.size];exact hd.1)];rfl
   grind
  ·rw[if_neg htd]at hu;have hget:(a.put (some d) cv).tmps.getD t undef=a.tmps.getD t undef:=by simp only[Act.put,eJ];grind
   rw[hget];exact(hs.env t u hu).ext he
theorem Pe (hs:RS W0 F bs s a w){o:Oper}{b:Bool}(h:D9 ops s o.guard=some b):eO o (yielded ops a.tmps)=b:=by
 unfold eO;cases hg:o.guard with
 |none=>rw[hg]at h;simp only[D9,iS]at h;exact h
 |some gw=>
  obtain⟨j,want⟩:=gw;rw[hg]at h;simp only[D9]at h;cases hd:(ops[j]?).bind (·.dst)with
  |none=>rw[hd]at h;cases h
  |some d=>
   rw[hd]at h;simp only at h;have hy:yielded ops a.tmps j=match a.tmps[d]? with|some (.bool b)=>some b|_=>none:=by grind[yielded]
   show(yielded ops a.tmps j==some want)=b;rw[hy];split at h
   ·rename_i c hc;have hr:=hs.env d _ hc;simp only[Rep]at hr;have ht:a.tmps[d]?=some (.bool c):=by cases hx:a.tmps[d]?<;>simp_all[undef]
    rw[ht];injection h with h;subst h;grind
   ·rename_i hc;have hr:=hs.env d _ hc;simp only[Rep,Ab]at hr;obtain⟨vs,hv,rfl⟩:=hr;injection h with h;subst h;cases hx:a.tmps[d]?<;>simp_all
   ·cases h
theorem J3 (hg:GOK W0 G)(hs:RS W0 F bs s a w){o:Oper}{K:St→Prop}(h:J6 P W0 G ops o s K){next:Act→World→Prop}{Q:Exit→Act→World→Prop}
 (hn:∀s' bs' a' w',K s'→RS W0 F bs' s' a' w'→Ext bs s.H w bs' s'.H w'→a'.defers=a.defers→next a' w'):
 if eO o (yielded ops a.tmps)then o.wp P a w next Q∨(o.asks P a w∧LetsOut Q)else next (a.put o.dst undef) w:=by
 have hput:∀(dst:Option Tmp) (v:Value),(a.put dst v).defers=a.defers:=λdst v=>AA;unfold J6 at h;split at h
 ·rename_i hgd;rw[Pe hs hgd];simp only[if_true];refine .inl ?_;split at h
  ·rename_i op hop;cases hr:aop G s op with
   |none=>rw[hr]at h;exact h.elim
   |some r=>
    rw[hr]at h;have hok:=Ut (P:=P) hg hs hop hr;cases r with
    |val v H' side=>obtain⟨hsd,hk⟩:=h;obtain⟨cv,w',bs',h1,h2,h3,h4⟩:=hok hsd;obtain⟨s',hK,hrs,hH⟩:=hs.put h2 h3 h4 hk;unfold Oper.wp;rw[h1,Oper.upon_value];exact hn s' bs' _ _ hK hrs (hH▸h4)<|hput _ _
    |skip H'=>obtain⟨w',bs',h1,h3,h4⟩:=hok;obtain⟨s',hK,hrs,hH⟩:=hs.put (v:=.tup []) (cv:=undef) bY201 h3 h4 h;unfold Oper.wp;rw[h1,Oper.upon_skip];exact hn s' bs' _ _ hK hrs (hH▸h4)<|hput _ _
    |call f args=>obtain⟨v,H',hc,hk⟩:=h;obtain⟨cargs,h1,h2⟩:=hok hc.1;unfold Oper.wp;rw[h1,Oper.upon_enter];refine Calls.mono (hc.2 F bs w cargs hs.heap h2) λe w' he=>?_;obtain⟨cv,bs',rfl,h2',h3,h4⟩:=he;obtain⟨s',hK,hrs,hH⟩:=hs.put h2' h3 h4 hk;exact hn s' bs' _ _ hK hrs (hH▸h4)<|hput _ _
  grind
 ·rename_i hgd;rw[Pe hs hgd];simp only[bFt,if_false];obtain⟨s',hK,hrs,hH⟩:=hs.put (v:=.tup []) (cv:=undef) bY201 hs.heap (eA _ _ _) h;grind[eA]
 grind
theorem Zl (hg:GOK W0 G):∀(l:List Oper) (i:Nat),ops.toList.drop i=l→∀{bs:List Nat}{s:St}{a:Act}{w:World},RS W0 F bs s a w→∀{K:St→Prop},Pm P W0 G ops l s K→∀{Q:Exit→Act→World→Prop},
 (∀s' bs' a' w',K s'→RS W0 F bs' s' a' w'→Ext bs s.H w bs' s'.H w'→a'.defers=a.defers→Q .normal a' w')→wpOps P ops Q (List.range' i<|N l) a w
 | [],i,_,bs,s,a,w,hs,K,h,Q,hn=>by simp only[lNi,List.range'_zero,wpOps];exact hn s bs a w h hs (eA _ _ _) Z
 |o::r,i,hd,bs,s,a,w,hs,K,h,Q,hn=>by
  have hi:ops[i]?=some o:=by have h0:=congrArg (λl=>l[0]?) hd;grind
  have hr:ops.toList.drop (i+1)=r:=by have:=congrArg (List.drop 1) hd;grind[List.drop_drop]
  simp only[lCo,List.range'_succ,wpOps,hi];simp only[Pm]at h;refine J3 hg hs h λs' bs' a' w' hk hrs hext hdf=>?_;exact Zl hg r (i+1) hr hrs hk λs'' bs'' a'' w'' h1 h2 h3 h4=>hn s'' bs'' a'' w'' h1 h2 (hext.trans h3)<|h4.trans hdf
end
def convE :Aj→Exit
 |.normal=>.normal|.exit id=>.exit id|.ret=>.ret
def Ex (P:Program)(W0:World)(c:Code)(s:St)(K:Aj→St→Prop):Prop:=
 ∀(F:Nat→Prop) (bs:List Nat) (a:Act) (w:World),RS W0 F bs s a w→∀Q:Exit→Act→World→Prop,
  (∀e s' bs' a' w',K e s'→RS W0 F bs' s' a' w'→Ext bs s.H w bs' s'.H w'→a'.defers=a.defers→Q (convE e) a' w')→c.wp P Q a w
abbrev Aj.then (e:Aj)(s:St)(next:St→Prop)(K:Aj→St→Prop):Prop:=match e with|.normal=>next s|e=>K e s
abbrev Aj.inBlock (id:Nat)(K:Aj→St→Prop)(e:Aj)(s:St):Prop:=match e with|.exit j=>cond (aA j id) (K .normal s) (K (.exit j) s)|e=>K e s
theorem Fa {P:Program}{c:Code}{Q:Exit→Act→World→Prop}{σ:Type}(R:σ→Act→World→Prop)(μ:σ→Nat){s:σ}{a:Act}{w:World}(h₀:R s a w)
 (round:∀s a w,R s a w→c.wp P (Exit.then (λa' w'=>∃s',R s' a' w'∧μ s'<μ s) Q) a w):(Code.loop c).wp P Q a w:=by
 intro b k cs;have key:∀n s a w,μ s=n→R s a w→
  ∃e a' w',Q e a' w'∧Arrives P (lone (b.at a (.code c:: .inLoop c::k)) cs w) b k cs e a' w':=by
  intro n;induction n using eF with
  |_ n ih=>
   intro s a w hn hI;obtain⟨e,a₁,w₁,hq,harr⟩:=round s a w hI b (.inLoop c::k) cs;cases e with
   |normal=>obtain⟨s₁,hI₁,hlt⟩:=hq;obtain⟨e₂,a₂,w₂,hq₂,harr₂⟩:=ih (μ s₁) (hn▸hlt) s₁ a₁ w₁ rfl hI₁;exact⟨e₂,a₂,w₂,hq₂,.of_steps (Steps.trans harr<|.one step_inLoop) harr₂⟩
   |exit id=>exact⟨_,a₁,w₁,hq,.pass (x:=.inLoop c) rfl (λ_ _=>.inl B4) harr⟩|goto l=>exact⟨_,a₁,w₁,hq,.pass (x:=.inLoop c) rfl (λ_ _=>.inl B4) harr⟩|ret=>exact⟨_,a₁,w₁,hq,.pass (x:=.inLoop c) rfl (λ_ _=>.inl B4) harr⟩|panic ch=>exact⟨_,a₁,w₁,hq,.pass (x:=.inLoop c) rfl (λ_ _=>.inl B4) harr⟩|outgrown=>exact⟨_,a₁,w₁,hq,.pass (x:=.inLoop c) rfl (λ_ _=>.inl B4) harr⟩
 obtain⟨e,a',w',hq,harr⟩:=key _ s a w rfl h₀;exact⟨e,a',w',hq,.of_steps (.one step_loop) harr⟩
section
variable {P : Program} {W0 : World} {G : List (Nat × AVal)} {s : St} {K : Aj → St → Prop}
theorem Ex.mono {c:Code}{K':Aj→St→Prop}(h:Ex P W0 c s K)(hk:∀e s',K e s'→K' e s'):Ex P W0 c s K':=λF bs a w hs Q hq=>h F bs a w hs Q λe s' bs' a' w' k=>hq e s' bs' a' w'<|hk e s' k
theorem Ex.skip (h:K .normal s):Ex P W0 .skip s K:=λ_ bs a w hs _ hq=>wp_skip<|hq .normal s bs a w h hs (eA _ _ _) Z
theorem Ex.exit {id:Nat}(h:K (.exit id) s):Ex P W0 (.exit id) s K:=λ_ bs a w hs _ hq=>wp_exit<|hq (.exit id) s bs a w h hs (eA _ _ _) Z
theorem Ex.ret (h:K .ret s):Ex P W0 .ret s K:=λ_ bs a w hs _ hq=>wp_ret<|hq .ret s bs a w h hs (eA _ _ _) Z
theorem Ex.region (hg:GOK W0 G){id:Nat}{ops:Array Oper}(h:Pm P W0 G ops ops.toList s<|K .normal):Ex P W0 (.region id ops false) s K:=
 λ_ bs a w hs Q hq=>wp_region (by
  have:=Zl (P:=P) hg ops.toList 0 B4 hs h (Q:=Q) λs' bs' a' w' hk=>hq .normal s' bs' a' w' hk
  grind[List.range_eq_range'])
theorem Ex.seq {x y:Code}(h:Ex P W0 x s λe s'=>e.then s' (λs'=>Ex P W0 y s' K) K):Ex P W0 (.seq x y) s K:=λF bs a w hs Q hq=>wp_seq (h F bs a w hs _ λe s' bs' a' w' hk hrs hext hd=>by cases e with|normal=>exact hk F bs' a' w' hrs Q λe2 s2 bs2 a2 w2 h1 h2 h3 h4=>hq e2 s2 bs2 a2 w2 h1 h2 (hext.trans h3) (h4.trans hd)|exit id=>exact hq (.exit id) s' bs' a' w' hk hrs hext hd|ret=>exact hq .ret s' bs' a' w' hk hrs hext hd)
theorem Ex.cond (hg:GOK W0 G){c:Operand}{c':AOpd}{x y:Code}{b:Bool}(hc:An c=some c')(hv:ev G s c'=some (.bool b))(ht:b=true→Ex P W0 x s K)(hf:b=false→Ex P W0 y s K):
 Ex P W0 (.cond c x y) s K:=
 λF bs a w hs Q hq=>wp_cond_split (t:=b) (by have:=Bd hg hs hc hv;grind[Rep]) (λh=>ht h F bs a w hs Q hq)<|λh=>hf h F bs a w hs Q hq
theorem Ex.block {id:Nat}{c:Code}(h:Ex P W0 c s<|Aj.inBlock id K):Ex P W0 (.block id c) s K:=
 λF bs a w hs Q hq=>wp_block (h F bs a w hs _ λe s' bs' a' w' hk hrs hext hd=>by
  cases e with
  |normal=>exact hq .normal s' bs' a' w' hk hrs hext hd|ret=>exact hq .ret s' bs' a' w' hk hrs hext hd
  |exit j=>
   simp only[Aj.inBlock]at hk;show if j=id then Q .normal a' w' else Q (.exit j) a' w';cases hj:aA j id with
   |true=>rw[hj]at hk;rw[if_pos<|nBq hj];exact hq .normal s' bs' a' w' hk hrs hext hd
   |false=>
    rw[hj]at hk;rw[if_neg<|Nat.ne_of_beq_eq_false hj]
    exact hq (.exit j) s' bs' a' w' hk hrs hext hd)
theorem Ex.loop {c:Code}{σ:Type}(Ix:σ→St→Prop)(μ:σ→Nat){i:σ}(h0:Ix i s)
 (round:∀i s,Ix i s→Ex P W0 c s λe s'=>e.then s' (λs'=>∃j,Ix j s'∧μ j<μ i) K):Ex P W0 (.loop c) s K:=
 λF bs a w hs Q hq=>by
  refine Fa (σ:=σ) (λi a' w'=>∃s' bs',Ix i s'∧RS W0 F bs' s' a' w'∧Ext bs s.H w bs' s'.H w'∧a'.defers=a.defers) μ (s:=i) ⟨s,bs,h0,hs,eA _ _ _,Z⟩ ?_;rintro i a1 w1 ⟨s1,bs1,hi,hrs1,hext1,hd1⟩;refine round i s1 hi F bs1 a1 w1 hrs1 _ λe s' bs' a' w' hk hrs hext hd=>?_;cases e with
  |normal=>obtain⟨j,hj,hlt⟩:=hk;exact⟨j,⟨s',bs',hj,hrs,hext1.trans hext,hd.trans hd1⟩,hlt⟩
  |exit id=>exact hq (.exit id) s' bs' a' w' hk hrs (hext1.trans hext) (hd.trans hd1)|ret=>exact hq .ret s' bs' a' w' hk hrs (hext1.trans hext)<|hd.trans hd1
def En (P:Program)(W0:World)(call:CallF):Prop:=∀f args H v H',call f args H=some (v,H')→A5 P W0 f args H v H'
theorem leB_le {p:Int×Int}(h:leB p=true):p.1≤p.2:=by grind[leB]
theorem Rx :∀{l:List (Int×Int)},Qn l=true→Ah l
 | [],_=>trivial
 |p::r,h=>by
  simp only[Qn]at h;cases hp:leB p with
  |false=>rw[hp]at h;cases h
  |true=>rw[hp]at h;exact⟨leB_le hp,Rx h⟩
theorem St.put_putP {s s':St}{dst:Option Nat}{v:AVal}{H:Hz}{K:St→Prop}(h:s.put dst v H=some s')(hk:K s'):Ru s dst v H K:=by
 cases dst with
 |none=>simp only[St.put,iS]at h;subst h;exact hk
 |some d=>
  simp only[St.put]at h;cases hd:(bB d s.n&&bB d 4094)with
  |false=>rw[hd]at h;cases h
  |true=>rw[hd,cond_true,iS]at h;subst h;exact⟨hd,hk⟩
theorem DE {call:CallF}(hc:En P W0 call){ops:Array Oper}{o:Oper}{s s':St}(h:DT P G call ops o s=some s'){K:St→Prop}(hk:K s'):J6 P W0 G ops o s K:=by
 unfold DT at h;unfold J6;cases hgd:D9 ops s o.guard with
 |none=>rw[hgd]at h;cases h
 |some b=>
  rw[hgd]at h;cases b with
  |false=>exact St.put_putP h hk
  |true=>
   simp only at h⊢;cases hop:Au P o.op with
   |none=>rw[hop]at h;cases h
   |some op=>
    rw[hop]at h;simp only at h⊢;cases hr:aop G s op with
    |none=>rw[hr]at h;cases h
    |some r=>
     rw[hr]at h;cases r with
     |val v H' side=>
      simp only[DM]at h;cases hsd:Qn side with
      |false=>rw[hsd]at h;cases h
      |true=>rw[hsd]at h;exact⟨Rx hsd,St.put_putP h hk⟩
     |skip H'=>exact St.put_putP h hk
     |call f args=>
      simp only[DM]at h;cases hcr:call f args s.H with
      |none=>rw[hcr]at h;cases h
      |some p=>obtain⟨v,H'⟩:=p;rw[hcr]at h;exact⟨v,H',hc _ _ _ _ _ hcr,St.put_putP h hk⟩
theorem FT {call:CallF}(hc:En P W0 call){ops:Array Oper}:∀{l:List Oper}{s s':St},Yp P G call ops l s=some s'→∀{K:St→Prop},K s'→Pm P W0 G ops l s K
 | [],s,s',h,K,hk=>by simp only[Yp,iS]at h;subst h;exact hk
 |o::r,s,s',h,K,hk=>by
  simp only[Yp]at h;split at h;·rename_i s1 h1;exact DE hc h1<|FT hc h hk
  ·cases h
def HX (P:Program)(W0:World)(draw:Array Oper→St→Option St):Prop:=∀id ops s s',draw ops s=some s'→∀K:Aj→St→Prop,K .normal s'→Ex P W0 (.region id ops true) s K
theorem UQ {c:Code}{body:St→Option (Aj×St)}(hb:∀s e s',body s=some (e,s')→Ex P W0 c s λe1 s1=>e1=e∧s1=s'){n:Nat}{s:St}{e:Aj}{s':St}(h:FI body n s=some (e,s')):
 Ex P W0 (.loop c) s λe1 s1=>e1=e∧s1=s':=by
 refine Ex.loop (σ:=Nat) (λn s=>FI body n s=some (e,s')) id (i:=n) h ?_;intro n s h;cases n with
 |zero=>cases h
 |succ n=>
  simp only[FI]at h;split at h;·rename_i s1 h1;refine(hb _ _ _ h1).mono ?_;grind
  ·rename_i hne;refine(hb _ _ _ h).mono ?_;rintro e2 s2 ⟨rfl,rfl⟩;cases e2<;>grind
theorem Ns (hg:GOK W0 G){call:CallF}(hc:En P W0 call){draw:Array Oper→St→Option St}(hdr:HX P W0 draw):∀(n:Nat) {c:Code}{s:St}{e:Aj}{s':St},W3 P G call draw n c s=some (e,s')→
 Ex P W0 c s λe1 s1=>e1=e∧s1=s'
 |0,_,_,_,_,h=>Hq
 |n+1,c,s,e,s',h=>by
  have ih:=@Ns hg call hc draw hdr n;simp only[W3]at h;cases c<;>simp only[EI]at h<;>try (cases h;done)
  case skip=>grind[Ex.skip]
  case exit id=>grind[Ex.exit]
  case ret=>grind[Ex.ret]
  case region id ops d=>
   split at h;·rename_i s1 h1;injection h with h;injection h with h2 h3;subst h2;subst h3;cases d with|true=>exact hdr id ops s s1 h1 _ ⟨rfl,rfl⟩|false=>exact Ex.region hg<|FT hc h1 ⟨rfl,rfl⟩
   ·cases h
  case seq x y=>
   split at h;·rename_i s1 h1;refine Ex.seq<|(ih h1).mono ?_;grind
   ·rename_i hne;refine Ex.seq<|(ih h).mono ?_;rintro e2 s2 ⟨rfl,rfl⟩;cases e2<;>grind
  case cond c x y=>grind[Ex.cond]
  case block id c=>
   split at h;·rename_i j s1 h1;refine Ex.block<|(ih h1).mono ?_;grind
   ·rename_i hne;refine Ex.block<|(ih h).mono ?_;rintro e2 s2 ⟨rfl,rfl⟩;cases e2<;>grind
  grind[UQ]
end
end Go.Abs
namespace Go.Abs
open Go.RowKit
variable {F : Nat → Prop}
def I1 (k:Nat):Nat→List Value→List AVal→List Value
 |0,_,_=>[]|m+1,vs,cs=>(cond (aA k 1&&(cs.headD .nilIf).one) (vs.headD undef)<|.agg (vs.take k).toArray)::I1 k m (vs.drop k) (cs.drop k)
section
variable {bs : List Nat} {H : Hz} {w : World}
theorem X4 {k:Nat}(hk:1≤k):∀{m:Nat}{cs:List AVal}{vs:List Value},Ab F bs H w cs vs→m*k≤N cs→
 Ab F bs H w (Da k m cs) (I1 k m vs cs)∧(∀u∈I1 k m vs cs,u.cells.size=k)∧flat (I1 k m vs cs)=vs.take (m*k)∧N (I1 k m vs cs)=m∧N (Da k m cs)=m
 |0,cs,vs,h,hl=>by simp[Da,I1,Ab,flat]
 |m+1,cs,vs,h,hl=>by
  have hlen:=h.length;have hmk:(m+1)*k=k+m*k:=by grind
  have hkl:k≤N cs:=Y;obtain⟨h1,h2,h3,h4,h5⟩:=X4 (m:=m) hk (h.drop k) Jo;have htl:N (vs.take k)=k:=Jo;have key:∃x:AVal,∃u:Value,(Da k (m+1) cs=x::Da k m (cs.drop k))∧(I1 k (m+1) vs cs=u::I1 k m (vs.drop k) (cs.drop k))∧Rep F bs H w x u∧u.cells.size=k∧u.cells.toList=vs.take k:=by
   have hagg:Rep F bs H w (.agg<|cs.take k) (.agg (vs.take k).toArray)∧(Value.agg (vs.take k).toArray).cells.size=k∧(Value.agg (vs.take k).toArray).cells.toList=vs.take k:=by refine⟨by simp only[Rep];exact⟨_,rfl,h.take k⟩,?_,?_⟩<;>grind[Value.cells]
   cases hk1:aA k 1 with
   |false=>exact⟨_,_,by simp only[Da,hk1,cond_false],by simp only[I1,hk1,Bool.false_and,cond_false],hagg⟩
   |true=>
    have:=nBq hk1;subst this;cases cs with
    |nil=>simp at hkl
    |cons c cs=>
     simp only[Ab]at h;obtain⟨u,us,rfl,hu,hus⟩:=h;cases h1:c.one with
     |false=>exact⟨_,_,by simp_all[Da],by simp_all[I1],hagg⟩
     |true=>
      have ho:=hu.one h1;have hc:u.cells.toList=[u]:=by cases u<;>simp_all[Value.cells,Value.oneCell']
      exact⟨c,u,by simp_all[Da],by simp_all[I1],hu,by grind,by grind⟩
  grind[Ab,flat]
theorem D1.take {n:Nat}{k id off len:Nat}{cap:Option Nat}{v:Value}(hid:id<n)(h:D1 bs H w k id off len cap v):D1 (bs.take n) (H.take n) w k id off len cap v:=by grind[D1]
theorem Hg.take {bs:List Nat}{H:Hz}{id n:Nat}{v:Value}(hid:id<n)(hr:Hg bs H id v):Hg (bs.take n) (H.take n) id v:=by grind[Hg]
theorem Fe.take {n:Nat}{id off:Nat}{v:Value}(hid:id<n)(h:Fe bs H id off v):Fe (bs.take n) (H.take n) id off v:=by grind[Fe]
theorem G8.take {n:Nat}{id off len:Nat}{v:Value}(hid:id<n)(h:G8 bs H id off len v):G8 (bs.take n) (H.take n) id off len v:=by grind[G8]
theorem Ib.takeB {n:Nat}{a:Option Addr}{vs:List Value}{cap:Nat}(h:Ib F bs w a vs cap):Ib F (bs.take n) w a vs cap:=by cases a with|none=>exact h|some a=>obtain⟨h1,h2,h3⟩:=h;exact⟨h1,h2,λj u hj=>⟨⟨λhm=>(h3 j u hj).1.1 (dA hm),(h3 j u hj).1.2⟩,(h3 j u hj).2⟩⟩
mutual
theorem DD {n : Nat} : ∀ (a : AVal) (v : Value), Rep F bs H w a v → blw n a = true → Rep F (bs.take n) (H.take n) w a v
  | .bool _, _, hr, _ | .int _ _, _, hr, _ | .str _, _, hr, _ | .nilSl, _, hr, _ | .emp, _, hr, _ | .nilPtr, _, hr, _ | .nilFn, _, hr, _ | .nilMp, _, hr, _ | .nilIf, _, hr, _ => PY
  | .agg cs, _, hr, hb => by
    simp only [Rep] at hr ⊢
    obtain ⟨vs, hv, hl⟩ := hr
    exact ⟨vs, hv, L3 cs vs hl (by grind [blw])⟩
  | .tup cs, _, hr, hb => by
    simp only [Rep] at hr ⊢
    obtain ⟨vs, hv, hl⟩ := hr
    exact ⟨vs, hv, L3 cs vs hl (by grind [blw])⟩
  | .row k es, _, hr, hb => by
    simp only [Rep] at hr ⊢
    obtain ⟨a, cap, vs, hv, hl, hk, hrow⟩ := hr
    exact ⟨a, cap, vs, hv, L3 es vs hl (by grind [blw]), hk, hrow.takeB⟩
  | .hsl k id off len cap, _, hr, hb => by
    simp only [Rep] at hr ⊢
    simp only [blw, Nat.blt_eq] at hb
    exact ⟨hr.1, hr.2.take hb⟩
  | .ptr id off, _, hr, hb => by
    simp only [Rep] at hr ⊢
    simp only [blw, Nat.blt_eq] at hb
    exact ⟨hr.1, hr.2.take hb⟩
  | .mref id, _, hr, hb => by
    simp only [Rep] at hr ⊢
    simp only [blw, Nat.blt_eq] at hb
    exact ⟨hr.1, hr.2.take hb⟩
  | .optr id off len, _, hr, hb => by
    simp only [Rep] at hr ⊢
    simp only [blw, Nat.blt_eq] at hb
    exact ⟨hr.1, hr.2.take hb⟩
  | .eptr e off, _, hr, hb => by
    simp only [Rep] at hr ⊢
    obtain ⟨b, base, u, hv, he, ⟨h1, h2⟩, h3⟩ := hr
    exact ⟨b, base, u, hv, DD e u he (by grind [blw]), ⟨fun hm => h1 (List.mem_of_mem_take hm), h2⟩, h3⟩
  | .fn f first cap, _, hr, hb => by
    simp only [Rep] at hr ⊢
    obtain ⟨fs, cs, hv, h1, h2⟩ := hr
    simp only [blw] at hb
    cases hf : A8 n first with
    | false => rw [hf] at hb; cases hb
    | true => rw [hf] at hb; exact ⟨fs, cs, hv, L3 first fs h1 hf, L3 cap cs h2 hb⟩
  | .iface t x, _, hr, hb => by
    simp only [Rep] at hr ⊢
    obtain ⟨u, hv, hx⟩ := hr
    exact ⟨u, hv, DD x u hx (by grind [blw])⟩
theorem L3 {n : Nat} : ∀ (az : List AVal) (vs : List Value), Ab F bs H w az vs → A8 n az = true → Ab F (bs.take n) (H.take n) w az vs
  | [], _, hr, _ => by grind [Ab]
  | a :: az, _, hr, hb => by
    simp only [Ab] at hr ⊢
    obtain ⟨u, us, hv, h1, h2⟩ := hr
    simp only [A8] at hb
    cases ha : blw n a with
    | false => rw [ha] at hb; cases hb
    | true => rw [ha] at hb; exact ⟨u, us, hv, DD a u h1 ha, L3 az us h2 hb⟩
end
theorem V8 {b:Nat}{T:TypeId}{vs rest:List Value}{fr:Nat×Nat}(h:w.heap[b]?=some (.cells (vs++rest).toArray T fr)){j:Nat}{u:Value}(hu:vs[j]?=some u):w.cell? ⟨b,j,none⟩=some u:=by rw[cell_of_row w b j _ T fr h,List.getElem?_toArray,List.getElem?_append_left (aC.1 hu).1];exact hu
mutual
theorem Ui {W0 : World} (hh : Ae W0 F bs H w) {n : Nat} : ∀ (m : Nat) (a : AVal) (v : Value) (a' : AVal), Rep F bs H w a v → frz H n m a = some a' → Rep F (bs.take n) (H.take n) w a' v
  | 0, _, _, _, _, h => Hq
  | m + 1, a, v, a', hr, h => by
    cases a with
    | agg cs =>
      simp only [frz] at h
      cases hc : He H n m cs with
      | none => rw [hc] at h; cases h
      | some cs' =>
        rw [hc] at h; injection h with h; subst h
        simp only [Rep] at hr ⊢
        obtain ⟨vs, hv, hl⟩ := hr
        exact ⟨vs, hv, (Nu hh m cs vs cs' hl hc).1⟩
    | tup cs =>
      simp only [frz] at h
      cases hc : He H n m cs with
      | none => rw [hc] at h; cases h
      | some cs' =>
        rw [hc] at h; injection h with h; subst h
        simp only [Rep] at hr ⊢
        obtain ⟨vs, hv, hl⟩ := hr
        exact ⟨vs, hv, (Nu hh m cs vs cs' hl hc).1⟩
    | row k es =>
      simp only [frz] at h
      cases hc : He H n m es with
      | none => rw [hc] at h; cases h
      | some es' =>
        rw [hc] at h; injection h with h; subst h
        simp only [Rep] at hr ⊢
        obtain ⟨x, cap, vs, hv, hl, hk, hrow⟩ := hr
        obtain ⟨h1, h2⟩ := Nu hh m es vs es' hl hc
        exact ⟨x, cap, vs, by grind, h1, hk, hrow.takeB⟩
    | hsl k id off len cap =>
      simp only [frz] at h
      cases hid : Nat.blt id n with
      | true =>
        rw [hid, cond_true] at h; injection h with h; subst h
        simp only [Nat.blt_eq] at hid
        simp only [Rep] at hr ⊢
        exact ⟨hr.1, hr.2.take hid⟩
      | false =>
        rw [hid, cond_false] at h
        cases hk : Nat.ble 1 k with
        | false => rw [hk] at h; cases h
        | true =>
          rw [hk, cond_true] at h
          have hk' := Nat.le_of_ble_eq_true hk
          have hid' : n ≤ id := by
            grind [Nat.blt_eq]
          simp only [Rep] at hr
          obtain ⟨_, hr⟩ := hr
          unfold D1 at hr
          have fin : ∀ (T : TypeId) (cs : List AVal) (op : Bool) (b c : Nat), H[id]? = some (.cells T cs op) → bs[id]? = some b → v = .slice (some ⟨b, off, none⟩) len c → len ≤ c → off + len * k ≤ N cs →
              ∀ es, He H n m (Da k len (cs.drop off)) = some es → Rep F (bs.take n) (H.take n) w (.row k es) v := by
            intro T cs op b c ho hb hv hlc hle es hes
            have hob : ∃ (vs rest : List Value) (T' : TypeId) (fr : Nat × Nat), w.heap[b]? = some (.cells (vs ++ rest).toArray T' fr) ∧ Ab F bs H w cs vs := by
              have := hh.obj id _ b ho hb
              cases op with
              | false => obtain ⟨vs, rest, fr, h1, h2, _⟩ := this; exact ⟨vs, rest, _, fr, h1, h2⟩
              | true => obtain ⟨vs, rest, fr, h1, h2, _⟩ := this; exact ⟨vs, rest, _, fr, h1, h2⟩
            obtain ⟨vs, rest, T', fr, h1, h2⟩ := hob
            obtain ⟨c1, c2, c3, c4, c5⟩ := X4 (m := len) hk' (h2.drop off) Jo
            obtain ⟨e1, e2⟩ := Nu hh m _ _ es c1 hes
            simp only [Rep]
            refine ⟨some ⟨b, off, none⟩, c, _, by grind, e1, c2, rfl, Y, fun j u hj => ⟨⟨fun hm => ?_, fun hF => ?_⟩, ?_⟩⟩
            · obtain ⟨i, hi, he⟩ := List.mem_iff_getElem.1 hm
              have : bs[i]? = some b := by
                grind
              have hi' : i < n := by grind
              have := Ea hh.nodup this hb
              omega
            · exact (hh.forb b hF).2.2 (mGe hb)
            grind [V8]
          split at h
          · grind
          · rename_i T cs ho
            rw [ho] at hr
            obtain ⟨hle, hr⟩ := hr
            cases hcnd : (Nat.beq off 0 && Nat.beq (len * k) (N cs)) with
            | false => rw [hcnd] at h; cases h
            | true =>
              rw [hcnd, cond_true] at h
              simp only [bAt] at hcnd
              have hcnd : off = 0 ∧ len * k = N cs := ⟨nBq hcnd.1, nBq hcnd.2⟩
              obtain ⟨b, c, hb, hv, hlc, _, _⟩ := hr (fun _ => hcnd)
              split at h
              · grind
              · cases h
          · cases h
    | ptr id off =>
      simp only [frz] at h
      cases hid : Nat.blt id n with
      | false => rw [hid] at h; cases h
      | true =>
        rw [hid, cond_true] at h; injection h with h; subst h
        simp only [Nat.blt_eq] at hid
        simp only [Rep] at hr ⊢
        exact ⟨hr.1, hr.2.take hid⟩
    | mref id =>
      simp only [frz] at h
      cases hid : Nat.blt id n with
      | false => rw [hid] at h; cases h
      | true =>
        rw [hid, cond_true] at h; injection h with h; subst h
        simp only [Nat.blt_eq] at hid
        simp only [Rep] at hr ⊢
        exact ⟨hr.1, hr.2.take hid⟩
    | optr id off len =>
      simp only [frz] at h
      cases hid : Nat.blt id n with
      | false => rw [hid] at h; cases h
      | true =>
        rw [hid, cond_true] at h; injection h with h; subst h
        simp only [Nat.blt_eq] at hid
        simp only [Rep] at hr ⊢
        exact ⟨hr.1, hr.2.take hid⟩
    | eptr e off =>
      simp only [frz] at h
      cases hc : frz H n m e with
      | none => rw [hc] at h; cases h
      | some e' =>
        rw [hc] at h; injection h with h; subst h
        simp only [Rep] at hr ⊢
        obtain ⟨b, base, u, hv, he, ⟨h1, h2⟩, h3⟩ := hr
        exact ⟨b, base, u, hv, Ui hh m e u e' he hc, ⟨fun hm => h1 (List.mem_of_mem_take hm), h2⟩, h3⟩
    | fn f first cap =>
      simp only [frz] at h
      cases hc : He H n m first with
      | none => rw [hc] at h; cases h
      | some a1 =>
        rw [hc] at h
        simp only at h
        cases hc2 : He H n m cap with
        | none => rw [hc2] at h; cases h
        | some c1 =>
          rw [hc2] at h; injection h with h; subst h
          simp only [Rep] at hr ⊢
          obtain ⟨fs, cs, hv, h1, h2⟩ := hr
          exact ⟨fs, cs, hv, (Nu hh m first fs a1 h1 hc).1, (Nu hh m cap cs c1 h2 hc2).1⟩
    | iface t x =>
      simp only [frz] at h
      cases hc : frz H n m x with
      | none => rw [hc] at h; cases h
      | some x' =>
        rw [hc] at h; injection h with h; subst h
        simp only [Rep] at hr ⊢
        obtain ⟨u, hv, hx⟩ := hr
        exact ⟨u, hv, Ui hh m x u x' hx hc⟩
    | _ => simp only [frz] at h; injection h with h; subst h; simpa only [Rep] using hr
theorem Nu {W0 : World} (hh : Ae W0 F bs H w) {n : Nat} : ∀ (m : Nat) (az : List AVal) (vs : List Value) (az' : List AVal), Ab F bs H w az vs → He H n m az = some az' → Ab F (bs.take n) (H.take n) w az' vs ∧ N az' = N az
  | 0, _, _, _, _, h => by grind [He]
  | m + 1, [], vs, az', hr, h => by
    grind [He, Ab]
  | m + 1, a :: az, vs, az', hr, h => by
    simp only [He] at h
    cases hc : frz H n m a with
    | none => rw [hc] at h; cases h
    | some a1 =>
      rw [hc] at h
      simp only at h
      cases hc2 : He H n m az with
      | none => rw [hc2] at h; cases h
      | some as1 =>
        rw [hc2] at h; injection h with h; subst h
        simp only [Ab] at hr
        obtain ⟨u, us, rfl, h1, h2⟩ := hr
        obtain ⟨h3, h4⟩ := Nu hh m az us as1 h2 hc2
        refine ⟨?_, by simp [h4]⟩
        simp only [Ab]
        exact ⟨u, us, rfl, Ui hh m a u a1 h1 hc, h3⟩
end
theorem P9 {n:Nat}:∀{l:Hz}{i:Nat}{T:TypeId}{cs:List AVal}{op:Bool},B7 n l=true→l[i]?=some (.cells T cs op)→A8 n cs=true
 | [],i,_,_,_,_,h=>Tf|o::r,0,T,cs,op,hb,h=>by grind[B7]
 |o::r,i+1,T,cs,op,hb,h=>by
  have hr:B7 n r=true:=by cases o<;>grind[B7]
  exact P9 hr bY75
theorem Ae.take {W0:World}(hh:Ae W0 F bs H w){n:Nat}(hb:B7 n (H.take n)=true):Ae W0 F (bs.take n) (H.take n) w:=by
 refine⟨by simp[hh.len],hh.base,λb hm=>hh.low b<|dA hm,hh.nodup.sublist<|List.take_sublist n bs,λb hF=>?_,λi o b hi hbi=>?_⟩;·obtain⟨h1,h2,h3⟩:=hh.forb b hF;grind
 ·have hin:i<n:=by grind
  have hi':=hi;rw[List.getElem?_take_of_lt hin]at hi hbi;have:=hh.obj i o b hi hbi;cases o with
  |dead=>trivial|iter s p=>exact this|mp es=>exact this
  |cells T cs op=>
   have hcs:=P9 hb hi';cases op with
   |false=>obtain⟨vs,rest,fr,h1,h2,h3⟩:=this;exact⟨vs,rest,fr,h1,L3 cs vs h2 hcs,h3⟩
   |true=>obtain⟨vs,rest,fr,h1,h2,h3⟩:=this;exact⟨vs,rest,fr,h1,L3 cs vs h2 hcs,h3⟩
theorem Ext.take {bs0:List Nat}{H0:Hz}{w0:World}(h:Ext bs0 H0 w0 bs H w):Ext bs0 H0 w0 (bs.take<|N H0) (H.take<|N H0) w:=by refine⟨h.size,h.block,λk hk=>h.new k<|dA hk,λi o ho=>?_⟩;have hi:=(aC.1 ho).1;obtain⟨o',h1,h2⟩:=h.obj i o ho;simp_all[Bi]
theorem Rk {W0:World}(hh:Ae W0 F bs H w){bs0:List Nat}{H0:Hz}{w0:World}(he:Ext bs0 H0 w0 bs H w){v:AVal}{cv:Value}(hv:Rep F bs H w v cv):
 ∃bs',Rep F bs' (Ls (N H0) v H).2 w (Ls (N H0) v H).1 cv∧Ae W0 F bs' (Ls (N H0) v H).2 w∧Ext bs0 H0 w0 bs' (Ls (N H0) v H).2 w:=by
 unfold Ls;cases h1:bK (N H) (N H0)with
 |true=>exact⟨bs,hv,hh,he⟩
 |false=>
  rw[cond_false];cases h2:B7 (N H0) (H.take<|N H0)with
  |false=>exact⟨bs,hv,hh,he⟩
  |true=>
   rw[cond_true];split;·rename_i v' hf;exact⟨bs.take<|N H0,Ui hh _ v cv v' hv hf,hh.take h2,he.take⟩
   ·grind
end
theorem Df :∀(az:List AVal) (i:Nat) (e:Env) (t:Nat),i+N az≤4094→(Gg i az e).get t=if i≤t∧t<i+N az then az[t-i]? else e.get t
 | [],i,e,t,h=>by simp_all[Gg,if_neg]|v::r,i,e,t,h=>by simp only[lCo]at h;simp only[Gg];rw[Df r (i+1) _ t Y,eQ 12 i v e t Y];grind
theorem PL (t:Nat):Env.leaf.get t=none:=rfl
theorem F8 {W0:World}{F:Nat→Prop}{bs:List Nat}{H:Hz}{w:World}(hh:Ae W0 F bs H w){args:List AVal}{cargs:List Value}(hr:Ab F bs H w args cargs)(hl:N args≤4094)(k:Nat):
 RS W0 F bs ⟨Gg 0 args .leaf,H,N args+(k-N args)⟩ {tmps:=cargs.toArray++Array.replicate (k-cargs.toArray.size) undef,defers:=[]} w:=by
 have hlen:=hr.length;refine⟨hh,by simp[hlen],λt v hv=>?_⟩;rw[Df args 0 .leaf t Y]at hv;split at hv
 ·rename_i ht;simp only[Nat.sub_zero]at hv;obtain⟨u,hu,hrep⟩:=hr.get hv;have:(cargs.toArray++Array.replicate (k-cargs.toArray.size) undef).getD t undef=u:=by simp_all[Array.getElem?_append_left]
  grind
 grind[PL]
def SJ (tmps:Array Value):ResultVar→Sem Value
 |.tmp t=>pure (tmps.getD t undef)|.cell c t=>do loadVar t (←asAddr (tmps.getD c undef))
theorem IW {P:Program}{W0:World}{F:Nat→Prop}{bs:List Nat}{s:St}{a:Act}{w:World}(hs:RS W0 F bs s a w){r:ResultVar}{v:AVal}(h:Ry P s r=some v):
 ∃cv,Rep F bs s.H w v cv∧(SJ a.tmps r).run P w= .ok cv w:=by
 cases r with
 |tmp t=>exact⟨_,hs.env t v h,rfl⟩
 |cell c t=>
  simp only[Ry]at h;split at h
  ·rename_i p hp;split at h
   ·rename_i n agg ht;have hpr:=hs.env c p hp;obtain⟨cv,h1,h2⟩:=GI (P:=P) hs.heap ht hpr h;refine⟨cv,h2,?_⟩;have hsa:∃ad,a.tmps.getD c undef= .pointer (some ad):=by
     cases p<;>simp only[Jf]at h<;>try (cases h;done)
     all_goals grind[Rep]
    grind[SJ,Instr.loadAt,Instr.sureAddr,asAddr]
   ·cases h
  ·cases h
theorem V1 {P:Program}{W0:World}{F:Nat→Prop}{bs:List Nat}{s:St}{a:Act}{w:World}(hs:RS W0 F bs s a w):∀{rs:List ResultVar}{vs:List AVal},Dk P s rs=some vs→
 ∃cvs:List Value,Ab F bs s.H w vs cvs∧(rs.mapM<|SJ a.tmps).run P w= .ok cvs w
 | [],vs,h=>by simp_all[Dk,Ab]
 |r::rs,vs,h=>by
  simp only[Dk]at h;split at h
  ·rename_i v hv;split at h;·rename_i vs' hvs;injection h with h;subst h;obtain⟨cv,h1,h2⟩:=IW hs hv;obtain⟨cvs,h3,h4⟩:=V1 hs hvs;refine⟨cv::cvs,by grind[Ab],?_⟩;simp_all
   ·cases h
  ·cases h
theorem Es {P:Program}{W0:World}{F:Nat→Prop}{bs:List Nat}{s:St}{a:Act}{w:World}(hs:RS W0 F bs s a w){fn:Func}{vs:List AVal}(h:Dk P s fn.results.toList=some vs):
 ∃cv,(results fn a.tmps).run P w= .ok cv w∧Rep F bs s.H w (Cb vs) cv:=by
 obtain⟨cvs,h1,h2⟩:=V1 hs h;refine⟨if h:cvs.toArray.size=1 then cvs.toArray[0]else .tuple cvs.toArray,?_,?_⟩
 ·unfold results;simp only[sRb,Array.mapM_eq_mapM_toList,Sem.run_map];have key:∀f:ResultVar→Sem Value,(∀r,f r=SJ a.tmps r)→(((fn.results.toList.mapM f).run P w).andThen λa w'=>Result.ok a.toArray w').andThen (λa w'=>Sem.run P (pure (if h:a.size=1 then a[0]else Value.tuple a)) w')=Result.ok (if h:cvs.toArray.size=1 then cvs.toArray[0]else .tuple cvs.toArray) w:=by intro f hf;have:f=SJ a.tmps:=funext hf;simp_all
  exact key _ (λr=>by cases r<;>rfl)
 ·cases vs with|nil=>simp only[Ab]at h1;subst h1;simp only[Cb,Rep];exact⟨[],B4,Z4⟩|cons v vs=>simp only[Ab]at h1;obtain⟨u,us,rfl,hu,hus⟩:=h1;cases vs with|nil=>simp only[Ab]at hus;subst hus;simpa[Cb]using hu|cons v2 vs=>simp only[Ab]at hus;obtain⟨u2,us2,rfl,hu2,hus2⟩:=hus;simp only[Cb,Rep];exact⟨u::u2::us2,B4,by grind[Ab]⟩
theorem A5.of_ex {P:Program}{W0:World}{f:FuncId}{fn:Func}{c:Code}{args:List AVal}{H:Hz}{v:AVal}{H':Hz}(hf:P.funcs[f]?=some fn)(hb:fn.body=some c)(hn:fn.name≠ "runtime.NumGoroutine")(hl:N args≤4094)
 (h:Ex P W0 c ⟨Gg 0 args .leaf,H,N args+(fn.ntmps-N args)⟩ λe s'=>(match e with|.exit _=>False|_=>True)∧∃vs,Dk P s' fn.results.toList=some vs∧(Ls (N H) (Cb vs) s'.H=(v,H')∨(Cb vs,s'.H)=(v,H'))):
 A5 P W0 f args H v H':=by
 refine⟨⟨fn,c,hf,hb,hn⟩,λF bs w cargs hh hr=>?_⟩;refine calls_of_wp hf hb<|h F bs _ w (F8 hh hr hl fn.ntmps) _ λe s' bs' a' w' hk hrs hext hd=>?_;obtain⟨hne,vs,hvs,hlv⟩:=hk;obtain⟨cv,h1,h2⟩:=Es hrs hvs;simp only at hext;have hlast:∃bs'',Rep F bs'' H' w' v cv∧Ae W0 F bs'' H' w'∧Ext bs H w bs'' H' w':=by
  rcases hlv with hlv|hlv;·obtain⟨bs'',h3,h4,h5⟩:=Rk hrs.heap hext h2;grind
  ·injection hlv with e1 e2;subst e1;subst e2;exact⟨bs',h2,hrs.heap,hext⟩
 obtain⟨bs'',h3,h4,h5⟩:=hlast;have fin:bodyPost P fn (λe w'=>∃cv bs',e= .returned cv∧Rep F bs' H' w' v cv∧Ae W0 F bs' H' w'∧Ext bs H w bs' H' w') .ret a' w':=⟨hd,cv,h1,cv,bs'',rfl,h3,h4,h5⟩;cases e with|normal=>exact fin|ret=>exact fin|exit id=>exact hne.elim
end Go.Abs
namespace Go.Abs
open Go.RowKit
def AOpd.tmps :AOpd→List Nat
 |.tmp t=>[t]|_=>[]
def FE (l:List AOpd):List Nat:=l.flatMap AOpd.tmps
def JP :Option AOpd→List Nat
 |some x=>x.tmps|none=>[]
def MC (l:List<|Nat×Nat×AOpd):List Nat:=l.flatMap λp=>p.2.2.tmps
def AOp.tmps :AOp→List Nat
 |.move x|.box _ x|.nilCheck x|.un _ x|.conv _ x|.fieldAddr _ x|.range x|.next x|.extract x _|.len _ x|.iface _ x|.load _ _ x=>x.tmps|.pick c a b=>c.tmps++a.tmps++b.tmps|.alloc _ _=>[]|.build _ ps=>MC ps|.bslice _ _ _ _ ps=>MC ps|.store _ a x=>a.tmps++x.tmps|.bin _ _ x y=>x.tmps++y.tmps|.idxSl _ x i|.idxArr _ _ x i|.idxStr x i=>x.tmps++i.tmps|.cutStr x lo hi|.cutSl _ x lo hi=>x.tmps++JP lo++JP hi|.mkfn _ first cap=>FE first++FE cap
 |.call f args=>f.tmps++FE args|.append _ _ _ x y|.mm _ x y|.eqs _ _ x y|.idxVal _ _ _ x y=>x.tmps++y.tmps|.field _ _ _ x=>x.tmps|.cutArr _ _ x hi=>x.tmps++JP hi|.clear _ _ x=>x.tmps|.mkSl _ _ _ x y=>x.tmps++y.tmps|.mkMap=>[]|.mapUpd m k v=>m.tmps++k.tmps++v.tmps|.mapGet m k=>m.tmps++k.tmps|.pan x=>x.tmps|.tas _ x=>x.tmps|.appS _ x y=>x.tmps++y.tmps|.cut0 x=>x.tmps
section
variable {G : List (Nat × AVal)} {e e' : Env} {H : Hz} {n : Nat}
theorem B3 {x:AOpd}(h:∀t∈x.tmps,e.get t=e'.get t):ev G ⟨e,H,n⟩ x=ev G ⟨e',H,n⟩ x:=by cases x with|tmp t=>exact h t (by simp[AOpd.tmps])|val a=>rfl|glob g=>rfl
theorem M7 {x:Option AOpd}(h:∀t∈JP x,e.get t=e'.get t):oev G ⟨e,H,n⟩ x=oev G ⟨e',H,n⟩ x:=by cases x with|none=>rfl|some x=>simp only[oev];rw[B3 h]
theorem Uc :∀{l:List AOpd},(∀t∈FE l,e.get t=e'.get t)→evs G ⟨e,H,n⟩ l=evs G ⟨e',H,n⟩ l
 | [],_=>rfl|x::l,h=>by simp only[FE,List.flatMap_cons,eG]at h;simp only[evs];rw[B3<|λt ht=>h t<|.inl ht,Uc (l:=l)<|λt ht=>h t<|.inr ht]
theorem Qz :∀{l:List (Nat×Nat×AOpd)},(∀t∈MC l,e.get t=e'.get t)→Vz G ⟨e,H,n⟩ l=Vz G ⟨e',H,n⟩ l
 | [],_=>rfl|(a,b,x)::l,h=>by simp only[MC,List.flatMap_cons,eG]at h;simp only[Vz];rw[B3<|λt ht=>h t<|.inl ht,Qz (l:=l)<|λt ht=>h t<|.inr ht]
theorem Ud {o:AOp}(h:∀t∈o.tmps,e.get t=e'.get t):aop G ⟨e,H,n⟩ o=aop G ⟨e',H,n⟩ o:=by
 cases o<;>simp only[AOp.tmps,eG,or_imp,forall_and]at h<;>simp only[aop];case move x=>rw[B3 h]
 case pick c a b=>grind[B3]
 case mapUpd c a b=>rw[B3 h.1.1,B3 h.1.2,B3 h.2]
 case mapGet m k=>grind[B3]
 case box T x=>rw[B3 h]
 case build zs ps=>rw[Qz h]
 case bslice a b c zs ps=>rw[Qz h]
 case load m g x=>rw[B3 h]
 case store m a x=>grind[B3]
 case nilCheck x=>rw[B3 h]
 case bin op d x y=>grind[B3]
 case un op x=>rw[B3 h]
 case tas T x=>rw[B3 h]
 case appS e x y=>grind[B3]
 case cut0 x=>rw[B3 h]
 case conv c x=>rw[B3 h]
 case fieldAddr o x=>rw[B3 h]
 case idxSl k x i=>grind[B3]
 case idxArr m k x i=>grind[B3]
 case idxStr x i=>grind[B3]
 case cutStr x lo hi=>rw[B3 h.1.1,M7 h.1.2,M7 h.2]
 case cutSl k x lo hi=>rw[B3 h.1.1,M7 h.1.2,M7 h.2]
 case range x=>rw[B3 h]
 case next x=>rw[B3 h]
 case extract x i=>rw[B3 h]
 case mkfn f a b=>grind[Uc]
 case call f args=>rw[B3 h.1,Uc h.2]
 case append a b c x y=>grind[B3]
 case len s x=>rw[B3 h]
 case iface T x=>rw[B3 h]
 case mm b x y=>grind[B3]
 case eqs b e x y=>grind[B3]
 case idxVal a b c x y=>grind[B3]
 all_goals grind[B3,M7]
end
section
variable (P : Program) (W0 : World) (G : List (Nat × AVal)) (ops : Array Oper)
def Eu (o:Oper)(s:St)(K:AVal→Hz→Prop):Prop:=
 match D9 ops s o.guard with
 |some true=>match Au P o.op with
  |some op=>Ic P W0 s.H (aop G s op) K|none=>False
 |some false=>K (.tup []) s.H|none=>False
def Ep (dst:Option Nat)(v:AVal)(e:Env):Env:=match dst with|none=>e|some d=>Env.put 12 d v e
def E7 (dst:Option Nat)(n:Nat):Bool:=match dst with|none=>true|some d=>bB d n&&bB d 4094
def U2 (g:Option<|Nat×Bool):List Nat:=
 match g with
 |none=>[]
 |some (j,_)=>match(ops[j]?).bind (·.dst)with
  |some d=>[d]|none=>[]
def reads (o:Oper):List Nat:=
 U2 ops o.guard++match Au P o.op with
  |some op=>op.tmps|none=>[]
end
section
variable {P : Program} {W0 : World} {G : List (Nat × AVal)} {ops : Array Oper} {F : Nat → Prop}
theorem Qo {o:Oper}{s:St}{v:AVal}{H':Hz}(h:Eu P W0 G ops o s λv' H''=>v'=v∧H''=H')(hd:E7 o.dst s.n=true):
 J6 P W0 G ops o s λs'=>s'=⟨Ep o.dst v s.env,H',s.n⟩:=by
 have hput:Ru s o.dst v H' λs'=>s'=⟨Ep o.dst v s.env,H',s.n⟩:=by cases ho:o.dst with|none=>exact rfl|some d=>rw[ho]at hd;exact⟨hd,rfl⟩
 unfold Eu at h;unfold J6;cases hg:D9 ops s o.guard with
 |none=>rw[hg]at h;exact h.elim
 |some b=>
  rw[hg]at h;cases b with
  |false=>obtain⟨h1,h2⟩:=h;subst h1;subst h2;exact hput
  |true=>
   simp only at h⊢;cases hc:Au P o.op with
   |none=>rw[hc]at h;exact h.elim
   |some op=>
    rw[hc]at h;simp only at h⊢;cases hr:aop G s op with
    |none=>rw[hr]at h;exact h.elim
    |some r=>
     rw[hr]at h;cases r with
     |val v1 H1 side=>obtain⟨h1,h2,h3⟩:=h;subst h2;subst h3;exact⟨h1,hput⟩
     |skip H1=>obtain⟨h2,h3⟩:=h;subst h2;subst h3;exact hput
     |call f args=>obtain⟨v1,H1,h1,h2,h3⟩:=h;subst h2;subst h3;exact⟨_,_,h1,hput⟩
theorem Vo {e e':Env}{H H':Hz}{n:Nat}{g:Option (Nat×Bool)}(h:∀t∈U2 ops g,e.get t=e'.get t):D9 ops ⟨e,H,n⟩ g=D9 ops ⟨e',H',n⟩ g:=by cases g<;>grind[U2,D9]
theorem V3 {e e':Env}{H:Hz}{n:Nat}{o:Oper}{K:AVal→Hz→Prop}(h:∀t∈reads P ops o,e.get t=e'.get t)(hk:Eu P W0 G ops o ⟨e,H,n⟩ K):Eu P W0 G ops o ⟨e',H,n⟩ K:=by simp only[reads,eG,or_imp,forall_and]at h;grind[Eu,Vo,Ud]
theorem RS.env_eq {W0:World}{bs:List Nat}{s:St}{a:Act}{w:World}(hs:RS W0 F bs s a w){e:Env}(h:∀t,e.get t=s.env.get t):RS W0 F bs ⟨e,s.H,s.n⟩ a w:=⟨hs.heap,hs.size,λt v hv=>hs.env t v (by grind)⟩
structure Plan where
 v:Nat→AVal
 eff:Nat→Bool
 ok:Nat→Prop
 dn:Nat→Nat→Bool
 nxt:Nat→Nat→Nat
 fin:Nat
 Hs:Nat→Hz
 mask:Nat→Nat→Bool
 env:Nat→Env
def Plan.may (p:Plan)(Nx σ j:Nat):Prop:=(∀i,i<Nx→p.eff i=true→p.mask j i=true→p.dn σ i=true)∧∀i,i<Nx→p.eff i=true→p.mask i j=true→p.dn σ i=false
structure S1 (P:Program)(W0:World)(G:List<|Nat×AVal)(ops:Array Oper)(s:St)(p:Plan)(bad:Nat→Bool):Prop where
 back:∀(j:Nat) (o:Oper),ops[j]?=some o→∀e∈o.after,Region.binds .any e=true→e.on<j
 mask:∀(j:Nat) (o:Oper) (i:Nat),ops[j]?=some o→p.mask j i=true→∃e∈o.after,Region.binds .any e=true∧(e.on=i∨p.mask e.on i=true)
 uniq:∀(i j:Nat) (oi oj:Oper) (t:Nat),ops[i]?=some oi→ops[j]?=some oj→oi.dst=some t→oj.dst=some t→i=j
 rd:∀(j:Nat) (oj:Oper) (t:Nat),ops[j]?=some oj→t∈Abs.reads P ops oj→∀(i:Nat) (oi:Oper),ops[i]?=some oi→oi.dst=some t→p.mask j i=true∨p.mask i j=true
 env0:p.env 0=s.env
 env1:∀(i:Nat) (o:Oper),ops[i]?=some o→p.env (i+1)=Ep o.dst (p.v i) (p.env i)
 ok0:p.ok 0
 dn0:∀i,i<ops.size→p.eff i=true→p.dn 0 i=false
 h0:p.Hs 0=s.H
 quiet:∀(j:Nat) (o:Oper),ops[j]?=some o→p.eff j=false→∀σ,p.ok σ→p.may ops.size σ j→Eu P W0 G ops o ⟨p.env j,p.Hs σ,s.n⟩ λv' H'=>v'=p.v j∧H'=p.Hs σ
 loud:∀(j:Nat) (o:Oper),ops[j]?=some o→p.eff j=true→∀σ,p.ok σ→p.dn σ j=false→p.may ops.size σ j→bad j=false→
  (Eu P W0 G ops o ⟨p.env j,p.Hs σ,s.n⟩ λv' H'=>v'=p.v j∧H'=p.Hs (p.nxt σ j))∧p.ok (p.nxt σ j)∧∀i,i<ops.size→p.eff i=true→(p.dn (p.nxt σ j) i=true↔p.dn σ i=true∨i=j)
 last:∀σ,p.ok σ→(∀i,i<ops.size→p.eff i=true→p.dn σ i=true)→p.Hs σ=p.Hs p.fin
 dst:∀(j:Nat) (o:Oper),ops[j]?=some o→E7 o.dst s.n=true
 badE:∀i,bad i=true→p.eff i=true∧∀σ,p.ok σ→p.dn σ i=false
abbrev BA (P:Program)(W0:World)(G:List<|Nat×AVal)(ops:Array Oper)(s:St)(p:Plan):Prop:=S1 P W0 G ops s p λ_=>false
def L6 (ops:Array Oper)(p:Plan)(e0:Env)(done:Nat→Prop)(e:Env):Prop:=∀t,(∃(i:Nat) (o:Oper),ops[i]?=some o∧done i∧o.dst=some t∧e.get t=some (p.v i))∨((∀(i:Nat) (o:Oper),ops[i]?=some o→o.dst=some t→¬done i)∧e.get t=e0.get t)
theorem L6.step {s:St}{p:Plan}{bad:Nat→Bool}(hp:S1 P W0 G ops s p bad){done done':Nat→Prop}{e:Env}(h:L6 ops p s.env done e){j:Nat}{o:Oper}(hj:ops[j]?=some o)(hd:∀i,done' i↔done i∨i=j):
 L6 ops p s.env done' (Ep o.dst (p.v j) e):=by
 have hdo:=hp.dst j o hj;intro t;cases ho:o.dst with
 |none=>
  simp only[Ep];rcases h t with⟨i,oi,h1,h2,h3,h4⟩|⟨h1,h2⟩;·grind
  ·grind
 |some d=>
  rw[ho]at hdo
  have hlt:d<s.n∧d<4094:=by grind[E7,Nat.blt_eq]
  simp only[Ep];rw[eQ 12 d (p.v j) e t<|eN (eP hlt.2) 2];by_cases htd:t=d;·grind
  ·rw[if_neg htd];rcases h t with⟨i,oi,h1,h2,h3,h4⟩|⟨h1,h2⟩<;>grind
theorem L6.seq {s:St}{p:Plan}{bad:Nat→Bool}(hp:S1 P W0 G ops s p bad):∀j,j≤ops.size→L6 ops p s.env (λi=>i<j) (p.env j)
 |0,_=>λt=>.inr ⟨λi o _ _ h=>absurd h<|Nat.not_lt_zero i,by rw[hp.env0]⟩|j+1,hj=>by have ho:ops[j]?=some (ops[j]'(Y)):=eE Y;rw[hp.env1 j _ ho];exact(L6.seq hp j Y).step hp ho (λi=>by constructor<;>intro h<;>omega)
theorem L6.agree {s:St}{p:Plan}{bad:Nat→Bool}(hp:S1 P W0 G ops s p bad){d1 d2:Nat→Prop}{e1 e2:Env}(h1:L6 ops p s.env d1 e1)(h2:L6 ops p s.env d2 e2){t:Nat}(h:∀(i:Nat) (o:Oper),ops[i]?=some o→o.dst=some t→(d1 i↔d2 i)):e1.get t=e2.get t:=by
 rcases h1 t with⟨i,o,a1,a2,a3,a4⟩|⟨a1,a2⟩
 ·rcases h2 t with⟨k,ok,b1,b2,b3,b4⟩|⟨b1,b2⟩;·have:=hp.uniq i k o ok t a1 b1 a3 b3;grind
  grind
 ·rcases h2 t with⟨k,ok,b1,b2,b3,b4⟩|⟨b1,b2⟩<;>grind
structure Inv (P:Program)(W0:World)(G:List<|Nat×AVal)(ops:Array Oper)(s:St)(p:Plan)(F:Nat→Prop)(bs:List Nat)(a0:Act)(w0:World)(listed:Array Bool)(a:Act)(w:World):Prop where
 size:listed.size=ops.size
 down:∀(j:Nat) (o:Oper),ops[j]?=some o→listed.getD j true=true→∀e∈o.after,Region.binds .any e=true→listed.getD e.on false=true
 go:∃(e:Env) (bs':List Nat) (c:Nat),RS W0 F bs' ⟨e,p.Hs c,s.n⟩ a w∧Ext bs s.H w0 bs' (p.Hs c) w∧a.defers=a0.defers∧p.ok c∧
  (∀i,i<ops.size→p.eff i=true→(listed.getD i true=true↔p.dn c i=true))∧L6 ops p s.env (λi=>listed.getD i true=true) e
theorem Inv.mask {s:St}{p:Plan}{bad:Nat→Bool}(hp:S1 P W0 G ops s p bad){listed:Array Bool}(hsz:listed.size=ops.size)
 (down:∀(j:Nat) (o:Oper),ops[j]?=some o→listed.getD j true=true→∀e∈o.after,eC .any e=true→listed.getD e.on false=true):
 ∀(j:Nat) (o:Oper),ops[j]?=some o→(∀e∈o.after,eC .any e=true→listed.getD e.on false=true)→∀i,p.mask j i=true→listed.getD i true=true:=by
 intro j;induction j using eF with
 |_ j ih=>
  intro o ho hpre i hm;obtain⟨e,he,hb,h⟩:=hp.mask j o i ho hm;have hlt:=hp.back j o ho e he hb;have hl:=hpre e he hb;have hj:=(dZ.1 ho).1;have hon:e.on<listed.size:=Y;have hl':listed.getD e.on true=true:=by grind
  rcases h with rfl|h;·exact hl'
  ·grind
def unl (n:Nat)(listed:Array Bool):List Nat:=(eD n).filter λi=>!listed.getD i true
theorem JJ {n:Nat}{listed:Array Bool}{i:Nat}(hi:i<n)(hn:n=listed.size)(hu:listed.getD i true=false):N (unl n<|listed.setIfInBounds i true)<N (unl n listed):=by
 have h:unl n (listed.setIfInBounds i true)=(unl n listed).filter λj=>j !=i:=by unfold unl;rw[List.filter_filter];refine List.filter_congr λj hj=>?_;by_cases hji:j=i;all_goals simp_all[Ne.symm]
 rw[h];refine List.length_filter_lt_length_iff_exists.2 ⟨i,?_,B4⟩;grind[unl]
theorem JB {s:St}{p:Plan}{bad:Nat→Bool}(hp:S1 P W0 G ops s p bad){listed:Array Bool}(hsz:listed.size=ops.size)(hr:eH .any ops listed=[]):∀j,j<ops.size→listed.getD j true=true:=by
 intro j;induction j using eF with
 |_ j ih=>
  intro hj;cases hl:listed.getD j true with
  |true=>rfl
  |false=>
   have ho:ops[j]?=some (ops[j]'hj):=eE hj
   have:j∈eH .any ops listed:=mem_ready.2 ⟨hl,_,ho,λe he hb=>by
    have hlt:=hp.back j _ ho e he hb
    grind⟩
   rw[hr]at this;cases this
theorem IS (hg:GOK W0 G){s:St}{p:Plan}{bad:Nat→Bool}(hp:S1 P W0 G ops s p bad){bs:List Nat}{a0:Act}{w0:World}{Q:Exit→Act→World→Prop}
 (hB:∀(j:Nat) (o:Oper),ops[j]?=some o→bad j=true→∀bs' e c a w R,RS W0 F bs' ⟨e,p.Hs c,s.n⟩ a w→p.ok c→(∀t∈reads P ops o,(p.env j).get t=e.get t)→Ext bs s.H w0 bs' (p.Hs c) w→a.defers=a0.defers→wpOp P ops Q j R a w)
 (hQ:(∀i,i<ops.size→bad i=false)→∀bs' a w,RS W0 F bs' ⟨p.env ops.size,p.Hs p.fin,s.n⟩ a w→Ext bs s.H w0 bs' (p.Hs p.fin) w→a.defers=a0.defers→Q .normal a w):
 ∀(fuel:Nat) (listed:Array Bool) (a:Act) (w:World),Inv P W0 G ops s p F bs a0 w0 listed a w→N (unl ops.size listed)≤fuel→wpAny P .any ops Q fuel listed a w:=by
 have fin:∀(listed:Array Bool) (a:Act) (w:World),Inv P W0 G ops s p F bs a0 w0 listed a w→eH .any ops listed=[]→Q .normal a w:=by
  intro listed a w hi hr;obtain⟨e,bs',c,h1,h2,h3,h4,h5,h6⟩:=hi.go;have hall:=JB hp hi.size hr;have hc:p.Hs c=p.Hs p.fin:=hp.last c h4 λi i1 i2=>(h5 i i1 i2).1 (hall i i1);rw[hc]at h1 h2;refine hQ (λi hi=>?_) bs' a w (h1.env_eq λt=>?_) h2 h3;·cases hb:bad i with|false=>rfl|true=>obtain⟨b1,b2⟩:=hp.badE i hb;have:=(h5 i hi b1).1 (hall i hi);rw[b2 c h4]at this;cases this
  refine L6.agree hp (L6.seq hp ops.size<|bC _) h6 λi o hio _=>?_;grind
 intro fuel;induction fuel with
 |zero=>
  intro listed a w hi hu;have hnil:eH .any ops listed=[]:=by simp_all[eH,unl]
  exact⟨hnil,fin listed a w hi hnil⟩
 |succ fuel ih=>
  intro listed a w hi hu;refine⟨fin listed a w hi,λj hj=>?_⟩;obtain⟨hjl,o,ho,hpre⟩:=mem_ready.1 hj;have hjs:j<ops.size:=(dZ.1 ho).1;obtain⟨e,bs',c,h1,h2,h3,h4,h5,h6⟩:=hi.go;have hmj:=Inv.mask hp hi.size hi.down j o ho hpre;have hnot:∀i,i<ops.size→p.mask i j=true→listed.getD i true=false:=by intro i his hm;cases hl:listed.getD i true with|false=>rfl|true=>have hio:ops[i]?=some (ops[i]'his):=eE his;have:=Inv.mask hp hi.size hi.down i _ hio (λe he hb=>hi.down i _ hio hl e he hb) j hm;rw[hjl]at this;cases this
  have hrd:∀t∈reads P ops o,(p.env j).get t=e.get t:=by
   intro t ht;refine L6.agree hp (L6.seq hp j<|eP hjs) h6 λi oi hio hti=>?_;have his:i<ops.size:=(dZ.1 hio).1;have ltOf:∀x y ox,ops[x]?=some ox→p.mask x y=true→y<x:=by
    intro x;induction x using eF with
    |_ x ihx=>
     intro y ox hox hm;obtain⟨ed,hed,hb,h⟩:=hp.mask x ox y hox hm;have hlt:=hp.back x ox hox ed hed hb;rcases h with rfl|h;·exact hlt
     ·grind
   rcases hp.rd j o t ho ht i oi hio hti with hm|hm<;>grind
  by_cases hbd:bad j=true;·exact hB j o ho hbd bs' e c a w _ h1 h4 hrd h2 h3
  have hev:∃c',Eu P W0 G ops o ⟨e,p.Hs c,s.n⟩ (λv' H'=>v'=p.v j∧H'=p.Hs c')∧p.ok c'∧
   ∀i,i<ops.size→p.eff i=true→((listed.setIfInBounds j true).getD i true=true↔p.dn c' i=true):=by
   have hset:∀i,i≠j→(listed.setIfInBounds j true).getD i true=listed.getD i true:=λi hij=>getD_set_ne true<|Ne.symm hij;have hsetj:(listed.setIfInBounds j true).getD j true=true:=by simp_all
   have hmay:p.may ops.size c j:=by refine⟨λi i1 i2 i3=>(h5 i i1 i2).1 (hmj i i3),λi i1 i2 i3=>?_⟩<;>grind
   cases hef:p.eff j with
   |false=>
    refine⟨c,V3 hrd<|hp.quiet j o ho hef c h4 hmay,h4,λi i1 i2=>?_⟩;have hij:i≠j:=λh=>by grind
    rw[hset i hij];exact h5 i i1 i2
   |true=>
    have hdj:p.dn c j=false:=by grind
    obtain⟨l1,l2,l3⟩:=hp.loud j o ho hef c h4 hdj hmay (by simpa using hbd);refine⟨p.nxt c j,V3 hrd l1,l2,λi i1 i2=>?_⟩;rw[l3 i i1 i2];by_cases hij:i=j;·grind
    ·grind
  obtain⟨c',hev,hc',h5'⟩:=hev;have hop:=Qo (s:=⟨e,p.Hs c,s.n⟩) hev<|hp.dst j o ho;unfold wpOp;rw[ho];simp only;refine J3 hg h1 hop λs' bs'' a' w' hs' hrs hext hdf=>?_;subst hs';refine ih (listed.setIfInBounds j true) a' w' ⟨by simp[hi.size],λk ok hk hkl ed hed hb=>?_,_,bs'',c',hrs,h2.trans hext,hdf.trans h3,hc',h5',?_⟩ ?_
  ·by_cases hkj:k=j;·grind[getD_set_true]
   ·rw[getD_set_ne true<|Ne.symm hkj]at hkl;exact getD_set_true<|hi.down k ok hk hkl ed hed hb
  ·refine h6.step hp ho λi=>?_;by_cases hij:i=j;all_goals simp_all[Ne.symm]
  ·have:=JJ hjs hi.size.symm hjl;omega
theorem Ext.drawn (bs:List Nat)(H:Hz)(w:World)(n:Nat):Ext bs H w bs H {w with drawn:=n}:=⟨bC _,λ_ _ _=>rfl,λ_ h=>.inl h,λi o h=>⟨o,h,by cases o with|dead=>simp[Bi]|iter s p=>exact .inr ⟨s,p,rfl,rfl⟩|mp es=>exact .inr ⟨es,rfl,rfl⟩|cells T cs op=>cases op with|false=>exact .inr ⟨T,cs,rfl,rfl,rfl⟩|true=>exact .inr ⟨T,cs,rfl,.inr ⟨rfl,rfl,λ_ _=>rfl⟩⟩⟩⟩
theorem LJ (hm:P.follows .mixedOrders=true)(hg:GOK W0 G){id:Nat}{s:St}{p:Plan}{bad:Nat→Bool}(hp:S1 P W0 G ops s p bad){bs:List Nat}{a:Act}{w:World}(hs:RS W0 F bs s a w){Q:Exit→Act→World→Prop}
 (hB:∀(j:Nat) (o:Oper),ops[j]?=some o→bad j=true→∀bs' e c a' w' R,RS W0 F bs' ⟨e,p.Hs c,s.n⟩ a' w'→p.ok c→(∀t∈reads P ops o,(p.env j).get t=e.get t)→Ext bs s.H w bs' (p.Hs c) w'→a'.defers=a.defers→wpOp P ops Q j R a' w')
 (hQ:(∀i,i<ops.size→bad i=false)→∀bs' a' w',RS W0 F bs' ⟨p.env ops.size,p.Hs p.fin,s.n⟩ a' w'→Ext bs s.H w bs' (p.Hs p.fin) w'→a'.defers=a.defers→Q .normal a' w'):(Code.region id ops true).wp P Q a w:=wp_region_any hm (by
 have hext:=Ext.drawn bs s.H w<|w.drawn+1;refine IS (F:=F) (bs:=bs) (a0:=a) (w0:=w) hg hp hB hQ ops.size _ a _ ⟨B4,λj o ho hl=>?_,p.env 0,bs,0,?_,?_,Z,hp.ok0,λi hi hef=>?_,λt=>.inr ⟨λi o ho _ hl=>?_,by rw[hp.env0]⟩⟩ ?_;·have:=(dZ.1 ho).1;simp_all
 ·rw[hp.env0,hp.h0];refine⟨⟨hs.heap.len,hs.heap.base.trans ?_,hs.heap.low,hs.heap.nodup,hs.heap.forb,λi o b h1 h2=>(hs.heap.obj i o b h1 h2).ext hext Z⟩,hs.size,λt v hv=>(hs.env t v hv).ext hext⟩;exact⟨Z,Z,Z,bC _,λ_ _=>Z⟩
 ·rw[hp.h0];exact hext
 ·rw[hp.dn0 i hi hef];simp_all
 ·have:=(dZ.1 ho).1;simp_all
 grind[unl])
theorem Ex.draw (hm:P.follows .mixedOrders=true)(hg:GOK W0 G){id:Nat}{s:St}{p:Plan}(hp:BA P W0 G ops s p){K:Aj→St→Prop}(hk:K .normal ⟨p.env ops.size,p.Hs p.fin,s.n⟩):Ex P W0 (.region id ops true) s K:=λ_ _ _ _ hs _ hq=>LJ hm hg hp hs (λ_ _ _ hb=>by cases hb) λ_ bs' a' w' h1 h2 h3=>hq .normal _ bs' a' w' hk h1 h2 h3
end
def AOp.kind :AOp→Nat
 |.move _|.pick _ _ _|.build _ _|.bin _ _ _ _|.un _ _|.idxStr _ _|.cutStr _ _ _|.extract _ _|.mkfn _ _ _|.len _ _|.iface _ _|.mm _ _ _|.eqs _ _ _ _|.field _ _ _ _|.idxVal _ _ _ _ _=>0|.conv (.int _) _|.conv .same _|.conv .i2s _=>0|.load _ _ _|.nilCheck _|.fieldAddr _ _|.idxSl _ _ _|.idxArr _ _ _ _|.cutSl _ _ _ _|.cutArr _ _ _ _|.conv .b2s _=>1|.call _ _=>3|_=>2
theorem Ko {G:List (Nat×AVal)}{s:St}{o:AOp}(hk:o.kind=0∨o.kind=1){r:ARes}(h:aop G s o=some r):∃v side,r= .val v s.H side:=by
 have hV:∀{x:Option AVal},M5 s.H x=some r→∃v side,r= .val v s.H side:=λhx=>by grind[E9]
 have hS:∀{x:Option AV},Vv s.H x=some r→∃v side,r= .val v s.H side:=λhx=>by grind[Q6]
 cases o<;>(try (exfalso;revert hk;simp[AOp.kind];done))<;>simp only[aop]at h;case conv c x=>
  split at h
  ·rename_i a ha;cases c<;>(try (exfalso;revert hk;simp[AOp.kind];done))<;>simp only[Qj]at h;case int k=>cases a<;>simp only[JD,iS,reduceCtorEq]at h<;>exact⟨_,_,h.symm⟩
   case same=>cases a<;>simp only[IR,iS,reduceCtorEq]at h<;>exact⟨_,_,h.symm⟩
   case b2s=>exact hV h
   case i2s=>cases a<;>simp only[JE,iS,reduceCtorEq]at h<;>exact⟨_,_,h.symm⟩
  ·cases h
 case idxSl k x i=>grind
 case len st x=>grind
 all_goals first
  |exact hV h
  |(repeat' (split at h))<;>first
   |exact hV h|exact hS h|(cases h;done)
   |(injection h with h;exact⟨_,_,h.symm⟩)
   |(revert h;cases(aA _ _&&_)<;>intro h<;>first|(cases h;done)|(injection h with h;exact⟨_,_,h.symm⟩))
   |(revert h;cases(aA _ _)<;>intro h<;>first|(cases h;done)|exact hS h|(injection h with h;exact⟨_,_,h.symm⟩))
theorem L0 {G:List (Nat×AVal)}{e:Env}{H H':Hz}{n:Nat}(x:AOpd):ev G ⟨e,H,n⟩ x=ev G ⟨e,H',n⟩ x:=by cases x<;>rfl
theorem oev_H {G:List (Nat×AVal)}{e:Env}{H H':Hz}{n:Nat}(x:Option AOpd):oev G ⟨e,H,n⟩ x=oev G ⟨e,H',n⟩ x:=by cases x<;>grind[oev,L0]
theorem JT {G:List (Nat×AVal)}{e:Env}{H H':Hz}{n:Nat}:∀(l:List AOpd),evs G ⟨e,H,n⟩ l=evs G ⟨e,H',n⟩ l
 | []=>rfl|x::l=>by simp only[evs];rw[L0 x,JT l]
theorem UL {G:List (Nat×AVal)}{e:Env}{H H':Hz}{n:Nat}:∀(l:List<|Nat×Nat×AOpd),Vz G ⟨e,H,n⟩ l=Vz G ⟨e,H',n⟩ l
 | []=>rfl|(a,b,x)::l=>by simp only[Vz];rw[L0 x,UL l]
def Vb :Option ARes→Option (AVal×List (Int×Int))
 |some (.val v _ side)=>some (v,side)|_=>none
theorem Tt {H H':Hz}(x:Option AVal):Vb (M5 H x)=Vb (M5 H' x):=by cases x<;>rfl
theorem ares0_S {H H':Hz}(x:Option AV):Vb (Vv H x)=Vb (Vv H' x):=by cases x<;>rfl
theorem Xz {G:List (Nat×AVal)}{e:Env}{H H':Hz}{n:Nat}{o:AOp}(hk:o.kind=0):Vb (aop G ⟨e,H,n⟩ o)=Vb (aop G ⟨e,H',n⟩ o):=by
 cases o<;>(try (exfalso;revert hk;simp[AOp.kind];done))<;>simp only[aop];case move x=>rw[L0 x];exact Tt _
 case pick c a b=>grind[L0,Tt]
 case build zs ps=>
  rw[UL (H:=H) (H':=H') ps];split;·split<;>rfl
  ·rfl
 case bin op d x y=>grind[L0,ares0_S]
 case un op x=>grind[L0,Tt]
 case conv c x=>
  rw[L0 (H:=H) (H':=H') x];split;·rename_i a ha;cases c<;>(try (exfalso;revert hk;simp[AOp.kind];done))<;>simp only[Qj]<;>cases a<;>rfl
  ·rfl
 case idxStr x i=>
  rw[L0 (H:=H) (H':=H') x,L0 (H:=H) (H':=H') i];split;·split<;>rfl
  ·rfl
 case cutStr x lo hi=>
  rw[L0 (H:=H) (H':=H') x,oev_H (H:=H) (H':=H') lo,oev_H (H:=H) (H':=H') hi];split
  ·split;·split<;>rfl
   ·rfl
  ·rfl
 case extract x i=>grind[L0,Tt]
 case mkfn f a b=>
  rw[JT (H:=H) (H':=H') a,JT (H:=H) (H':=H') b];split;·split<;>rfl
  ·rfl
 case len st x=>
  rw[L0 (H:=H) (H':=H') x];split;·cases st<;>rfl
  ·cases st;·simp only[cond_false];split<;>rfl
   ·rfl
  ·rfl
 case mm b x y=>
  rw[L0 (H:=H) (H':=H') x,L0 (H:=H) (H':=H') y];split;·split<;>rfl
  ·rfl
 case eqs b e0 x y=>
  rw[L0 (H:=H) (H':=H') x,L0 (H:=H) (H':=H') y];split
  ·split;·split<;>rfl
   ·rfl
  ·rfl
 case idxVal a b c x y=>
  rw[L0 (H:=H) (H':=H') x,L0 (H:=H) (H':=H') y];split
  ·split;·split<;>rfl
   ·rfl
  ·rfl
 case field a b c x=>grind[L0,Tt]
 case iface T x=>rw[L0 (H:=H) (H':=H') x];split<;>rfl
def bEq (a b:Bool):Bool:=cond a b<|not b
theorem OX {a b:Bool}(h:bEq a b=true):a=b:=by cases a<;>cases b<;>first|rfl|cases h
def onEq :Option Nat→Option Nat→Bool
 |none,none=>true|some a,some b=>aA a b|_,_=>false
theorem onEq_eq {a b:Option Nat}(h:onEq a b=true):a=b:=by cases a<;>cases b<;>simp only[onEq,bFt]at h;all_goals simp_all
mutual
def Iz : AVal → AVal → Bool
  | .bool a, .bool b => bEq a b
  | .int k a, .int j b => Ws k j && decide (a = b)
  | .str a, .str b => decide (a = b)
  | .agg a, .agg b => O5 a b
  | .tup a, .tup b => O5 a b
  | .nilSl, .nilSl => true
  | .emp, .emp => true
  | .row k a, .row j b => Nat.beq k j && O5 a b
  | .hsl k i o l c, .hsl k' i' o' l' c' => Nat.beq k k' && Nat.beq i i' && Nat.beq o o' && Nat.beq l l' && onEq c c'
  | .nilPtr, .nilPtr => true
  | .ptr i o, .ptr i' o' => Nat.beq i i' && Nat.beq o o'
  | .optr i o l, .optr i' o' l' => Nat.beq i i' && Nat.beq o o' && Nat.beq l l'
  | .eptr e o, .eptr e' o' => Iz e e' && Nat.beq o o'
  | .fn f a c, .fn f' a' c' => Nat.beq f f' && O5 a a' && O5 c c'
  | .nilFn, .nilFn => true
  | .nilMp, .nilMp => true
  | .iface t x, .iface t' x' => Nat.beq t t' && Iz x x'
  | .nilIf, .nilIf => true
  | .mref i, .mref i' => Nat.beq i i'
  | _, _ => false
def O5 : List AVal → List AVal → Bool
  | [], [] => true
  | a :: az, b :: bs => Iz a b && O5 az bs
  | _, _ => false
end
mutual
theorem Sj : ∀ (a b : AVal), Iz a b = true → a = b
  | .bool a, b, h => by cases b <;> simp only [Iz, bFt] at h; rw [OX h]
  | .int k a, b, h => by
    cases b <;> simp only [Iz, bFt, bAt, dTe] at h
    rw [BU h.1, h.2]
  | .str a, b, h => by
    cases b <;> simp only [Iz, bFt, dTe] at h
    rw [h]
  | .agg a, b, h => by
    cases b <;> simp only [Iz, bFt] at h
    rw [J2 _ _ h]
  | .tup a, b, h => by
    cases b <;> simp only [Iz, bFt] at h
    rw [J2 _ _ h]
  | .nilSl, b, h => by grind [Iz]
  | .emp, b, h => by grind [Iz]
  | .row k a, b, h => by
    cases b <;> simp only [Iz, bFt, bAt] at h
    rw [nBq h.1, J2 _ _ h.2]
  | .hsl k i o l c, b, h => by
    cases b <;> simp only [Iz, bFt, bAt] at h
    grind [Nat.eq_of_beq_eq_true, onEq_eq]
  | .nilPtr, b, h => by grind [Iz]
  | .ptr i o, b, h => by
    cases b <;> simp only [Iz, bFt, bAt] at h
    simp_all
  | .optr i o l, b, h => by
    cases b <;> simp only [Iz, bFt, bAt] at h
    simp_all
  | .eptr e o, b, h => by
    cases b <;> simp only [Iz, bFt, bAt] at h
    rw [Sj _ _ h.1, nBq h.2]
  | .fn f x c, b, h => by
    cases b <;> simp only [Iz, bFt, bAt] at h
    rw [nBq h.1.1, J2 _ _ h.1.2, J2 _ _ h.2]
  | .nilFn, b, h => by grind [Iz]
  | .nilMp, b, h => by grind [Iz]
  | .iface t x, b, h => by
    cases b <;> simp only [Iz, bFt, bAt] at h
    rw [nBq h.1, Sj _ _ h.2]
  | .nilIf, b, h => by grind [Iz]
  | .mref i, b, h => by
    cases b <;> simp only [Iz, bFt] at h
    simp_all
theorem J2 : ∀ (a b : List AVal), O5 a b = true → a = b
  | [], b, h => by grind [O5]
  | x :: a, b, h => by
    cases b <;> simp only [O5, bFt, bAt] at h
    rw [Sj _ _ h.1, J2 _ _ h.2]
end
def hoEq :HObj→HObj→Bool
 |.cells T a o,.cells T' a' o'=>aA T T'&&O5 a a'&&bEq o o'|.iter s p,.iter s' p'=>decide (s=s')&&aA p p'|.mp a,.mp b=>decide (a=b)|.dead,.dead=>true|_,_=>false
def OL :Hz→Hz→Bool
 | [],[]=>true|a::az,b::bs=>hoEq a b&&OL az bs|_,_=>false
theorem hoEq_eq {a b:HObj}(h:hoEq a b=true):a=b:=by cases a<;>cases b<;>simp only[hoEq,bFt,bAt,dTe]at h;all_goals grind[cV,J2,OX]
theorem LG :∀{a b:Hz},OL a b=true→a=b
 | [],b,h=>by grind[OL]|x::a,b,h=>by cases b<;>simp only[OL,bFt,bAt]at h;rw[hoEq_eq h.1,LG h.2]
structure SP where
 n:Nat
 kind:List Nat
 mask:List Nat
 states:List Nat
def Me (masks:List Nat)(o:Oper):Nat:=o.after.toList.foldl (λm e=>cond (eC .any e) (eM (eM m<|eK 1 e.on)<|masks.getD e.on 0) m) 0
def tb (m i:Nat):Bool:=Nat.testBit m i
def LQ :List Oper→List Nat→List Nat
 | [],acc=>acc|o::r,acc=>LQ r<|acc++[Me acc o]
def E4 (P:Program)(o:Oper):Nat:=match Au P o.op with|some op=>op.kind|none=>2
def SP.eff (p:SP)(j:Nat):Bool:=bK 2<|p.kind.getD j 0
def SP.msk (p:SP)(j i:Nat):Bool:=tb (p.mask.getD j 0) i
def SP.mayB (p:SP)(σ j:Nat):Bool:=(eD p.n).all λi=>cond (p.eff i) (cond (p.msk j i) (tb σ i) true&&cond (p.msk i j) (not<|tb σ i) true) true
def SP.nxt (σ j:Nat):Nat:=eM σ<|eK 1 j
def SP.steps (p:SP)(σ:Nat):List Nat:=(eD p.n).filter λj=>p.eff j&&not (tb σ j)&&p.mayB σ j
def IC (x:Nat):List Nat→Bool
 | []=>false|y::r=>cond (aA x y) true<|IC x r
def R2 :List Nat→List Nat→List Nat→List Nat×List Nat
 | [],acc,new=>(acc,new)|x::r,acc,new=>cond (IC x acc) (R2 r acc new)<|R2 r (acc++[x])<|new++[x]
def S4 (p:SP):Nat→List Nat→List Nat→List Nat
 |0,_,acc=>acc|_+1,[],acc=>acc
 |f+1,σ::todo,acc=>match R2 ((p.steps σ).map<|SP.nxt σ) acc []with
  |(acc',new)=>S4 p f (todo++new) acc'
def Ey (P:Program)(ops:List Oper):SP:=
 let p:SP:={n:=N ops,kind:=ops.map<|E4 P,mask:=LQ ops [],states:=[]}
 {p with states:=S4 p 200 [0] [0]}
def Zh (o:Oper)(t:Nat):Bool:=match o.dst with|some d=>aA d t|none=>false
def T9 (P:Program)(ops:Array Oper)(p:SP)(j:Nat)(o:Oper):Bool:=
 (o.after.toList.all λe=>cond (eC .any e) (bB e.on j) true)&&
 aA (p.mask.getD j 0) (Me p.mask o)&&
 aA (p.kind.getD j 0) (E4 P o)&&
 (eD p.n).all λi=>match(ops[i]?).bind (·.dst)with|none=>true|some d=>(aA i j||not (Zh o d))&&((reads P ops o).all λt=>cond (aA t d) (p.msk j i||p.msk i j) true)
def SP.allIn (p:SP)(σ:Nat):Bool:=(eD p.n).all λi=>cond (p.eff i) (tb σ i) true
def SP.fin (p:SP):Nat:=(eD p.n).foldl (λσ i=>cond (p.eff i) (SP.nxt σ i) σ) 0
def It (P:Program)(ops:Array Oper)(p:SP):Bool:=
 aA p.n ops.size&&IC 0 p.states&&
 (p.states.all λσ=>(p.steps σ).all λj=>IC (SP.nxt σ j) p.states)&&
 (p.states.all λσ=>cond (p.allIn σ) (aA σ p.fin) true)&&
 (eD ops.size).all λj=>match ops[j]? with|some o=>T9 P ops p j o|none=>true
def Zj (p:SP):Bool:=
 (match p.states with
 | [a,b]=>aA a 0&&aA b (SP.nxt 0 (p.n-1))|_=>false)&&bK 1 p.n&&p.eff (p.n-1)&&
 (eD<|p.n-1).all λj=>aA (p.kind.getD j 0) 0||(aA (p.kind.getD j 0) 1&&p.msk (p.n-1) j)
def Qc (P:Program)(G:List<|Nat×AVal)(call:CallF)(ops:Array Oper)(o:Oper)(s:St):Option (AVal×Hz):=
 match D9 ops s o.guard with
 |some true=>match Au P o.op with
  |some op=>DM call s.H (aop G s op)|none=>none
 |some false=>some (.tup [],s.H)|none=>none
abbrev HMap :=List<|Nat×Hz
def lkH (σ:Nat):HMap→Option Hz
 | []=>none|p::r=>cond (aA σ p.1) (some p.2)<|lkH σ r
structure Tr where
 env:Env
 v:AVal
 σ:Nat
def Ul (P:Program)(G:List<|Nat×AVal)(call:CallF)(ops:Array Oper)(p:SP)(n:Nat):List Oper→Nat→Env→Nat→Hz→HMap→Option (List Tr×HMap×Env×Hz)
 | [],_,e,_,H,M=>some ([],M,e,H)
 |o::r,j,e,σ,H,M=>match E7 o.dst n with
  |true=>match Qc P G call ops o ⟨e,H,n⟩with
   |some (v,H')=>match p.eff j with
    |true=>match lkH (SP.nxt σ j) M with
     |none=>match Ul P G call ops p n r (j+1) (Ep o.dst v e) (SP.nxt σ j) H' ((SP.nxt σ j,H')::M)with
      |some (l,rest)=>some (⟨e,v,σ⟩::l,rest)|none=>none
     |some _=>none
    |false=>match Ul P G call ops p n r (j+1) (Ep o.dst v e) σ H M with
     |some (l,rest)=>some (⟨e,v,σ⟩::l,rest)|none=>none
   |none=>none
  |false=>none
def IG (P:Program)(G:List<|Nat×AVal)(call:CallF)(ops:Array Oper)(n:Nat)(o:Oper)(t:Tr)(σ j:Nat)(M:HMap):Option HMap:=
 cond (aA σ t.σ) (some M) (match lkH σ M with
  |some H=>match Qc P G call ops o ⟨t.env,H,n⟩with
   |some (v,H')=>cond (Iz v t.v) (match lkH (SP.nxt σ j) M with
    |some H''=>cond (OL H' H'') (some M) none|none=>some ((SP.nxt σ j,H')::M)) none
   |none=>none
  |none=>none)
def FP (P:Program)(G:List<|Nat×AVal)(call:CallF)(ops:Array Oper)(n:Nat)(l:List Tr)(σ:Nat):List Nat→HMap→Option HMap
 | [],M=>some M
 |j::r,M=>match ops[j]? with
  |some o=>match l[j]? with
   |some t=>match IG P G call ops n o t σ j M with
    |some M'=>FP P G call ops n l σ r M'|none=>none
   |none=>none
  |none=>none
def S7 (P:Program)(G:List<|Nat×AVal)(call:CallF)(ops:Array Oper)(p:SP)(n:Nat)(l:List Tr):List Nat→HMap→Option HMap
 | [],M=>some M
 |σ::r,M=>match FP P G call ops n l σ (p.steps σ) M with
  |some M'=>S7 P G call ops p n l r M'|none=>none
def CW (P:Program)(G:List<|Nat×AVal)(call:CallF)(ops:Array Oper)(p:SP)(n:Nat)(M:HMap)(o:Oper)(t:Tr)(j σ:Nat):Bool:=
 cond (aA σ t.σ) true (cond (p.mayB σ j) (match lkH σ M with
  |some H=>match Qc P G call ops o ⟨t.env,H,n⟩with
   |some (v,_)=>Iz v t.v|none=>false
  |none=>false) true)
def Oo (P:Program)(G:List<|Nat×AVal)(call:CallF)(ops:Array Oper)(p:SP)(n:Nat)(M:HMap):List Oper→List Tr→Nat→Bool
 |o::r,t::l,j=>cond (cond (aA (p.kind.getD j 0) 1) (p.states.all λσ=>CW P G call ops p n M o t j σ) true) (Oo P G call ops p n M r l<|j+1) false|_,_,_=>true
def Zw (P:Program)(G:List<|Nat×AVal)(call:CallF)(ops:Array Oper)(s:St):Option St:=
 cond (It P ops (Ey P ops.toList)) (match Ul P G call ops (Ey P ops.toList) s.n ops.toList 0 s.env 0 s.H [(0,s.H)]with
  |some (l,M,e,_)=>match S7 P G call ops (Ey P ops.toList) s.n l (Ey P ops.toList).states M with
   |some M'=>cond (Oo P G call ops (Ey P ops.toList) s.n M' ops.toList l 0) (match lkH (Ey P ops.toList).fin M' with
    |some H=>some ⟨e,H,s.n⟩|none=>none) none
   |none=>none
  |none=>none) none
theorem HY (a b i:Nat):tb (eM a b) i=(tb a i||tb b i):=Nat.testBit_or a b i
theorem UR (e i:Nat):tb (eK 1 e) i=decide (e=i):=by show((1:Nat)<<<e).testBit i=_;rw[Nat.shiftLeft_eq,Nat.one_mul,Nat.testBit_two_pow]
theorem M9 {masks:List Nat}{o:Oper}{i:Nat}(h:tb (Me masks o) i=true):∃e∈o.after,eC .any e=true∧(e.on=i∨tb (masks.getD e.on 0) i=true):=by
 have key:∀(l:List Edge) (m:Nat),tb (l.foldl (λm e=>cond (eC .any e) (eM (eM m<|eK 1 e.on)<|masks.getD e.on 0) m) m) i=true→
  tb m i=true∨∃e∈l,eC .any e=true∧(e.on=i∨tb (masks.getD e.on 0) i=true):=by
  intro l;induction l with
  |nil=>intro m h;exact .inl h
  |cons e l ih=>
   intro m h;simp only[List.foldl_cons]at h;rcases ih _ h with h'|⟨e',he',h'⟩
   ·cases hb:eC .any e with
    |false=>rw[hb,cond_false]at h';exact .inl h'
    |true=>
     rw[hb,cond_true,HY,HY,UR,eI,eI,dTe]at h';rcases h' with(h'|h')|h';·grind
     ·grind
     ·grind
   ·grind
 rcases key o.after.toList 0 h with h'|⟨e,he,h'⟩<;>grind[tb]
theorem Iw {x:Nat}:∀{l:List Nat},IC x l=true→x∈l
 | [],h=>Hq|y::r,h=>by simp only[IC]at h;cases hx:aA x y with|true=>rw[nBq hx];simp|false=>rw[hx]at h;exact List.mem_cons_of_mem _<|Iw h
section
variable {P : Program} {W0 : World} {G : List (Nat × AVal)} {call : CallF} {ops : Array Oper}
theorem Lq (hc:En P W0 call){o:Oper}{s:St}{v:AVal}{H':Hz}(h:Qc P G call ops o s=some (v,H')):Eu P W0 G ops o s λv' H''=>v'=v∧H''=H':=by
 unfold Qc at h;unfold Eu;cases hg:D9 ops s o.guard with
 |none=>rw[hg]at h;cases h
 |some b=>
  rw[hg]at h;cases b with
  |false=>simp only[iS,iP]at h;exact⟨h.1,h.2⟩
  |true=>
   simp only at h⊢;cases hop:Au P o.op with
   |none=>rw[hop]at h;cases h
   |some op=>
    rw[hop]at h;simp only at h⊢;cases hr:aop G s op with
    |none=>rw[hr]at h;cases h
    |some r=>
     rw[hr]at h;cases r with
     |val v1 H1 side=>
      simp only[DM]at h;cases hsd:Qn side with
      |false=>rw[hsd]at h;cases h
      |true=>rw[hsd,cond_true]at h;simp only[iS,iP]at h;exact⟨Rx hsd,h.1,h.2⟩
     |skip H1=>simp only[DM,iS,iP]at h;exact⟨h.1,h.2⟩|call f args=>exact⟨v,H',hc _ _ _ _ _ h,rfl,rfl⟩
theorem U8 {o:Oper}(hk:E4 P o≤1){e:Env}{H:Hz}{n:Nat}{v:AVal}{H':Hz}(h:Qc P G call ops o ⟨e,H,n⟩=some (v,H')):H'=H:=by
 unfold Qc at h;cases hg:D9 ops ⟨e,H,n⟩ o.guard with
 |none=>rw[hg]at h;cases h
 |some b=>
  rw[hg]at h;cases b with
  |false=>simp only[iS,iP]at h;exact h.2.symm
  |true=>
   simp only at h;unfold E4 at hk;cases hop:Au P o.op with
   |none=>rw[hop]at h;cases h
   |some op=>
    rw[hop]at h hk;simp only at h hk;cases hr:aop G ⟨e,H,n⟩ op with
    |none=>rw[hr]at h;cases h
    |some r=>
     obtain⟨v1,side,rfl⟩:=Ko Y hr;rw[hr]at h;simp only[DM]at h;cases hsd:Qn side with
     |false=>rw[hsd]at h;cases h
     |true=>rw[hsd,cond_true]at h;simp only[iS,iP]at h;exact h.2.symm
theorem GV {o:Oper}(hk:E4 P o=0){e:Env}{H:Hz}{n:Nat}{v:AVal}{H':Hz}(h:Qc P G call ops o ⟨e,H,n⟩=some (v,H'))(H2:Hz):Qc P G call ops o ⟨e,H2,n⟩=some (v,H2):=by
 have hH:=U8 Y h;subst hH;unfold Qc at h⊢;rw[←Vo (ops:=ops) (e:=e) (e':=e) (H:=H') (H':=H2) (λ_ _=>rfl)];cases hg:D9 ops ⟨e,H',n⟩ o.guard with
 |none=>rw[hg]at h;cases h
 |some b=>
  rw[hg]at h;cases b with
  |false=>simp only[iS,iP]at h⊢;exact⟨h.1,trivial⟩
  |true=>
   simp only at h⊢;unfold E4 at hk;cases hop:Au P o.op with
   |none=>rw[hop]at h;cases h
   |some op=>
    rw[hop]at h hk;simp only at h hk⊢;cases hr:aop G ⟨e,H',n⟩ op with
    |none=>rw[hr]at h;cases h
    |some r=>
     obtain⟨v1,side,rfl⟩:=Ko Y hr;have h0:=Xz (G:=G) (e:=e) (H:=H') (H':=H2) (n:=n) hk;rw[hr]at h0 h;cases hr2:aop G ⟨e,H2,n⟩ op with
     |none=>rw[hr2]at h0;cases h0
     |some r2=>
      obtain⟨v2,TU,rfl⟩:=Ko Y hr2;rw[hr2]at h0;simp only[Vb,iS,iP]at h0;obtain⟨h1,h2⟩:=h0;subst h1;subst h2;simp only[DM]at h⊢;cases hsd:Qn side with
      |false=>rw[hsd]at h;cases h
      |true=>rw[hsd,cond_true]at h;simp only[cond_true,iS,iP]at h⊢;exact⟨h.1,O⟩
def Fq (M M':HMap):Prop:=∀σ H,lkH σ M=some H→lkH σ M'=some H
theorem Fq.cons {M:HMap}{σ:Nat}{H:Hz}(h:lkH σ M=none):Fq M ((σ,H)::M):=by intro σ' H' h';grind[lkH,cV]
theorem Dq (σ:Nat)(H:Hz)(M:HMap):lkH σ ((σ,H)::M)=some H:=by simp_all[lkH]
def D5 (tr:List Tr)(ef:Env)(k:Nat):Env:=(tr[k]?.map Tr.env).getD ef
theorem Ua {p:SP}{n:Nat}:∀(l:List Oper) (j:Nat) (e:Env) (σ:Nat) (H:Hz) (M:HMap) {tr:List Tr}{Mf:HMap}{ef:Env}{Hf:Hz},Ul P G call ops p n l j e σ H M=some (tr,Mf,ef,Hf)→lkH σ M=some H→
 Fq M Mf∧N tr=N l∧D5 tr ef 0=e∧
 ∀k o,l[k]?=some o→∃t Hk H',tr[k]?=some t∧E7 o.dst n=true∧lkH t.σ Mf=some Hk∧Qc P G call ops o ⟨t.env,Hk,n⟩=some (t.v,H')∧
  (p.eff (j+k)=true→lkH (SP.nxt t.σ<|j+k) Mf=some H')∧D5 tr ef (k+1)=Ep o.dst t.v t.env
 | [],j,e,σ,H,M,tr,Mf,ef,Hf,h,hl=>by grind[Ul,Fq,D5]
 |o::r,j,e,σ,H,M,tr,Mf,ef,Hf,h,hl=>by
  simp only[Ul]at h;split at h
  ·rename_i hd;split at h
   ·rename_i v H' hv;split at h
    ·rename_i heff;split at h
     ·rename_i hnone;split at h;·rename_i l' rest hrest;simp only[iS,iP]at h;obtain⟨rfl,h⟩:=h;subst h;obtain⟨h1,h2,h3,h4⟩:=Ua r (j+1) _ _ H' _ hrest<|Dq _ _ _;have hext:Fq M Mf:=λσ' H'' h'=>h1 _ _<|Fq.cons hnone _ _ h';refine⟨hext,by simp[h2],rfl,λk o' hk=>?_⟩;cases k with|zero=>simp at hk;subst hk;exact⟨_,H,H',Z,hd,hext _ _ hl,hv,λ_=>h1 _ _<|Dq _ _ _,by grind[D5]⟩|succ k=>obtain⟨t,Hk,Hk',a1,a2,a3,a4,a5,a6⟩:=h4 k o' (by grind);exact⟨t,Hk,Hk',by grind,a2,a3,a4,by grind,by grind[D5]⟩
      ·cases h
     ·cases h
    ·rename_i heff;split at h;·rename_i l' rest hrest;simp only[iS,iP]at h;obtain⟨rfl,h⟩:=h;subst h;obtain⟨h1,h2,h3,h4⟩:=Ua r (j+1) _ _ H _ hrest hl;refine⟨h1,by simp[h2],rfl,λk o' hk=>?_⟩;cases k with|zero=>simp at hk;subst hk;exact⟨_,H,H',Z,hd,h1 _ _ hl,hv,λhe=>absurd he (by grind),by grind[D5]⟩|succ k=>obtain⟨t,Hk,Hk',a1,a2,a3,a4,a5,a6⟩:=h4 k o' (by grind);exact⟨t,Hk,Hk',by grind,a2,a3,a4,by grind,by grind[D5]⟩
     ·cases h
   ·cases h
  ·cases h
theorem OM {n:Nat}{o:Oper}{t:Tr}{σ j:Nat}{M M':HMap}(h:IG P G call ops n o t σ j M=some M'):
 Fq M M'∧(σ=t.σ∨∃H H',lkH σ M'=some H∧Qc P G call ops o ⟨t.env,H,n⟩=some (t.v,H')∧lkH (SP.nxt σ j) M'=some H'):=by
 unfold IG at h;cases hb:aA σ t.σ with
 |true=>rw[hb,cond_true]at h;injection h with h;subst h;exact⟨λ_ _ h=>h,.inl<|nBq hb⟩
 |false=>
  rw[hb,cond_false]at h;split at h
  ·rename_i H hH;split at h
   ·rename_i v H' hv;cases hav:Iz v t.v with
    |false=>rw[hav]at h;cases h
    |true=>
     have:=Sj _ _ hav;subst this;rw[hav,cond_true]at h;split at h
     ·rename_i H'' hH'';cases hhe:OL H' H'' with
      |false=>rw[hhe]at h;cases h
      |true=>have:=LG hhe;subst this;rw[hhe,cond_true]at h;injection h with h;subst h;exact⟨λ_ _ h=>h,.inr ⟨H,H',hH,hv,hH''⟩⟩
     ·rename_i hnone;injection h with h;subst h;exact⟨Fq.cons hnone,.inr ⟨H,H',Fq.cons hnone _ _ hH,hv,Dq _ _ _⟩⟩
   ·cases h
  ·cases h
theorem GC {n:Nat}{l:List Tr}{σ:Nat}:∀{js:List Nat}{M M':HMap},FP P G call ops n l σ js M=some M'→
 Fq M M'∧∀j∈js,∃o t,ops[j]?=some o∧l[j]?=some t∧(σ=t.σ∨∃H H',lkH σ M'=some H∧Qc P G call ops o ⟨t.env,H,n⟩=some (t.v,H')∧lkH (SP.nxt σ j) M'=some H')
 | [],M,M',h=>by simp only[FP,iS]at h;subst h;exact⟨λ_ _ h=>h,λj hj=>by cases hj⟩
 |j::r,M,M',h=>by
  simp only[FP]at h;split at h
  ·rename_i o ho;split at h
   ·rename_i t ht;split at h
    ·rename_i M1 h1;obtain⟨a1,a2⟩:=OM h1;obtain⟨b1,b2⟩:=GC h;refine⟨λσ H hh=>b1 _ _<|a1 _ _ hh,λk hk=>?_⟩;rcases List.mem_cons.1 hk with rfl|hk;·refine⟨o,t,ho,ht,a2.imp id ?_⟩;rintro⟨H,H',c1,c2,c3⟩;exact⟨H,H',b1 _ _ c1,c2,b1 _ _ c3⟩
     grind
    ·cases h
   ·cases h
  ·cases h
theorem Xl {p:SP}{n:Nat}{l:List Tr}:∀{ss:List Nat}{M M':HMap},S7 P G call ops p n l ss M=some M'→
 Fq M M'∧∀σ∈ss,∀j∈p.steps σ,∃o t,ops[j]?=some o∧l[j]?=some t∧(σ=t.σ∨∃H H',lkH σ M'=some H∧Qc P G call ops o ⟨t.env,H,n⟩=some (t.v,H')∧lkH (SP.nxt σ j) M'=some H')
 | [],M,M',h=>by simp only[S7,iS]at h;subst h;exact⟨λ_ _ h=>h,λj hj=>by cases hj⟩
 |σ::r,M,M',h=>by
  simp only[S7]at h;split at h
  ·rename_i M1 h1;obtain⟨a1,a2⟩:=GC h1;obtain⟨b1,b2⟩:=Xl h;refine⟨λσ H hh=>b1 _ _<|a1 _ _ hh,λτ hτ j hj=>?_⟩;rcases List.mem_cons.1 hτ with rfl|hτ;·obtain⟨o,t,c1,c2,c3⟩:=a2 j hj;refine⟨o,t,c1,c2,c3.imp id ?_⟩;rintro⟨H,H',c1,c2,c3⟩;exact⟨H,H',b1 _ _ c1,c2,b1 _ _ c3⟩
   grind
  ·cases h
theorem V2 {p:SP}{n:Nat}{M:HMap}:∀{l:List Oper}{tr:List Tr}{j:Nat},Oo P G call ops p n M l tr j=true→∀k o t,l[k]?=some o→tr[k]?=some t→p.kind.getD (j+k) 0=1→
 ∀σ∈p.states,p.mayB σ (j+k)=true→σ=t.σ∨∃H H',lkH σ M=some H∧Qc P G call ops o ⟨t.env,H,n⟩=some (t.v,H')
 | [],tr,j,_,k,o,t,h1,_,_=>by simp at h1|_::_,[],j,_,k,o,t,_,h2,_=>by simp at h2
 |o::r,t::l,j,h,k,o',t',h1,h2,hk=>by
  simp only[Oo]at h;cases hc:(cond (aA (p.kind.getD j 0) 1) (p.states.all λσ=>CW P G call ops p n M o t j σ) true)with
  |false=>rw[hc]at h;cases h
  |true=>
   rw[hc,cond_true]at h;cases k with
   |zero=>
    simp at h1 h2;subst h1;subst h2;rw[Nat.add_zero]at hk⊢;rw[hk]at hc;simp only[Nat.beq_refl,cond_true]at hc;intro σ hσ hm;have:=eB.1 hc σ hσ;unfold CW at this;cases hb:aA σ t.σ with
    |true=>exact .inl<|nBq hb
    |false=>
     rw[hb,cond_false,hm,cond_true]at this;split at this;·grind[Sj]
     ·cases this
   |succ k=>have:=V2 h k o' t' (by grind) (by grind) (by grind);rw[show j+(k+1)=j+1+k by omega];exact this
theorem X9 {p:SP}{Nx σ j:Nat}(hN:p.n=Nx):p.mayB σ j=true↔(∀i,i<Nx→p.eff i=true→p.msk j i=true→tb σ i=true)∧∀i,i<Nx→p.eff i=true→p.msk i j=true→tb σ i=false:=by unfold SP.mayB;grind
theorem BG (σ j i:Nat):tb (SP.nxt σ j) i=true↔tb σ i=true∨i=j:=by unfold SP.nxt;rw[HY,UR,eI,dTe];grind
theorem UD (hc:En P W0 call){s s':St}(h:Zw P G call ops s=some s'):∃p:Plan,BA P W0 G ops s p∧s'=⟨p.env ops.size,p.Hs p.fin,s.n⟩:=by
 unfold Zw at h;generalize hsp:Ey P ops.toList=sp at h;cases hok:It P ops sp with
 |false=>rw[hok]at h;cases h
 |true=>
  rw[hok,cond_true]at h;split at h
  ·rename_i l M ef Hf hseq;split at h
   ·rename_i M' hloud;cases hq:Oo P G call ops sp s.n M' ops.toList l 0 with
    |false=>rw[hq]at h;cases h
    |true=>
     rw[hq,cond_true]at h;split at h
     ·rename_i Hfin hfin;injection h with h;subst h;simp only[It,bAt]at hok;obtain⟨⟨⟨⟨k1,k2⟩,k3⟩,k4⟩,k5⟩:=hok;have hN:sp.n=ops.size:=nBq k1;have hat:∀(j:Nat) (o:Oper),ops[j]?=some o→T9 P ops sp j o=true:=by grind
      have hat1:∀(j:Nat) (o:Oper),ops[j]?=some o→(∀e∈o.after,eC .any e=true→e.on<j)∧sp.mask.getD j 0=Me sp.mask o∧sp.kind.getD j 0=E4 P o∧
       ∀(i:Nat) (oi:Oper) (d:Nat),ops[i]?=some oi→oi.dst=some d→(i=j∨o.dst≠some d)∧(d∈reads P ops o→sp.msk j i=true∨sp.msk i j=true):=by
       intro j o ho;have:=hat j o ho;simp only[T9,bAt]at this;obtain⟨⟨⟨a1,a2⟩,a3⟩,a4⟩:=this;refine⟨λe he hb=>?_,nBq a2,nBq a3,λi oi d hi hd=>?_⟩;·have:=eB.1 a1 e (by grind);simp_all
       ·have:=eB.1 a4 i<|List.mem_range.2 (by grind);rw[hi]at this;simp only[Option.bind_some,hd,bAt,eI]at this;obtain⟨b1,b2⟩:=this;refine⟨?_,λhr=>?_⟩
        ·rcases b1 with b1|b1;·simp_all
         ·refine .inr λhod=>?_<;>simp_all[Zh]
        ·have:=eB.1 b2 d hr;simp_all
      obtain⟨s1,s2,s3,s4⟩:=Ua ops.toList 0 s.env 0 s.H [(0,s.H)] hseq<|Dq _ _ _;obtain⟨l1,l2⟩:=Xl hloud;have q1:=V2 hq;have hclosed:∀σ∈sp.states,∀j∈sp.steps σ,SP.nxt σ j∈sp.states:=λσ hσ j hj=>Iw<|eB.1 (eB.1 k3 σ hσ) j hj;have hget:∀(j:Nat) (o:Oper),ops[j]?=some o→∃t Hk H',l[j]?=some t∧E7 o.dst s.n=true∧lkH t.σ M'=some Hk∧Qc P G call ops o ⟨t.env,Hk,s.n⟩=some (t.v,H')∧(sp.eff j=true→lkH (SP.nxt t.σ j) M'=some H')∧D5 l ef (j+1)=Ep o.dst t.v t.env:=by intro j o ho;obtain⟨t,Hk,H',a1,a2,a3,a4,a5,a6⟩:=s4 j o (by grind);refine⟨t,Hk,H',a1,a2,l1 _ _ a3,a4,λhe=>?_,a6⟩;have:=a5 (by grind);rw[Nat.zero_add]at this;exact l1 _ _ this
      have hsteps:∀σ j,j<ops.size→sp.eff j=true→tb σ j=false→sp.mayB σ j=true→j∈sp.steps σ:=by grind[SP.steps]
      refine⟨{v:=λj=>(l[j]?.map Tr.v).getD .nilIf,eff:=sp.eff,ok:=λσ=>σ∈sp.states,dn:=tb,nxt:=SP.nxt,fin:=sp.fin,Hs:=λσ=>(lkH σ M').getD [],mask:=sp.msk,env:=D5 l ef},?_,?_⟩
      ·have hmay:∀σ j,Plan.may {v:=λj=>(l[j]?.map Tr.v).getD .nilIf,eff:=sp.eff,ok:=λσ=>σ∈sp.states,dn:=tb,nxt:=SP.nxt,fin:=sp.fin,Hs:=λσ=>(lkH σ M').getD [],mask:=sp.msk,env:=D5 l ef} ops.size σ j→sp.mayB σ j=true:=λσ j hm=>(X9 hN).2 hm;refine⟨λj o ho=>(hat1 j o ho).1,λj o i ho hm=>?_,λi j oi oj t hi hj h1 h2=>?_,λj oj t hj ht i oi hi hti=>((hat1 j oj hj).2.2.2 i oi t hi hti).2 ht,s3,λi o ho=>?_,Iw k2,λi _ _=>Nat.zero_testBit i,?_,λj o ho hef σ hσ hm=>?_,λj o ho hef σ hσ hdn hm _=>?_,λσ hσ hall=>?_,λj o ho=>?_,λ_ h=>by cases h⟩;·have h2:=(hat1 j o ho).2.1;have hm':tb (sp.mask.getD j 0) i=true:=hm;rw[h2]at hm';exact M9 hm'
       ·grind
       ·grind[D5]
       ·simp only;rw[l1 _ _<|s1 _ _<|Dq _ _ _];rfl
       ·obtain⟨t,Hk,H',a1,a2,a3,a4,a5,a6⟩:=hget j o ho;have hkk:=(hat1 j o ho).2.2.1;have hle:E4 P o≤1:=by grind[SP.eff,Nat.ble_eq]
        have henv:D5 l ef j=t.env:=by simp[D5,a1]
        have hv:((l[j]?.map Tr.v).getD .nilIf)=t.v:=by simp[a1]
        show Eu P W0 G ops o ⟨D5 l ef j,(lkH σ M').getD [],s.n⟩ λv' H'=>v'=(l[j]?.map Tr.v).getD .nilIf∧H'=(lkH σ M').getD [];rw[henv,hv];have hk0:E4 P o=0∨E4 P o=1:=Y;rcases hk0 with hk0|hk1;·exact Lq hc<|GV hk0 a4 _
        ·rcases q1 j o t (by grind) a1 (by grind) σ hσ (by grind)with rfl|⟨H2,H2',c1,c2⟩;·grind[U8,Lq]
         ·rw[c1];have hH:=U8 Y c2;subst hH;exact Lq hc c2
       ·have hjs:=(dZ.1 ho).1;have hst:=hsteps σ j hjs hef hdn<|hmay σ j hm;refine⟨?_,hclosed σ hσ j hst,λi _ _=>BG σ j i⟩;obtain⟨t,Hk,H',a1,a2,a3,a4,a5,a6⟩:=hget j o ho;have henv:D5 l ef j=t.env:=by simp[D5,a1]
        have hv:((l[j]?.map Tr.v).getD .nilIf)=t.v:=by simp[a1]
        show Eu P W0 G ops o ⟨D5 l ef j,(lkH σ M').getD [],s.n⟩ λv' H'=>v'=(l[j]?.map Tr.v).getD .nilIf∧H'=(lkH (SP.nxt σ j) M').getD [];rw[henv,hv];obtain⟨o2,t2,b1,b2,b3⟩:=l2 σ hσ j hst;rw[ho]at b1;injection b1 with b1;subst b1;rw[a1]at b2;injection b2 with b2;subst b2;rcases b3 with rfl|⟨H2,H2',c1,c2,c3⟩;·grind[Lq]
        ·rw[c1,c3];exact Lq hc c2
       ·have:sp.allIn σ=true:=by grind[SP.allIn]
        have h4:=eB.1 k4 σ hσ;simp_all
       grind
      grind[D5]
     ·cases h
   ·cases h
  ·cases h
theorem HQ (hm:P.follows .mixedOrders=true)(hg:GOK W0 G)(hc:En P W0 call):HX P W0 (λops s=>Zw P G call ops s):=by intro id ops s s' h K hk;grind[UD,Ex.draw]
end
structure AOper where
 dst:Option Nat
 guard:Option (Nat×Bool)
 op:AOp
inductive ACode where
 |skip|ops (l:List AOper)|draw (l:List AOper) (b:Bool:=false)|drawC (l:List AOper) (p:SP)|seq (a b:ACode)|cond (c:AOpd) (x y:ACode)|block (id:Nat) (c:ACode)|loop (c:ACode)|exit (id:Nat)|ret|stuck|scope (c:ACode)|mark
def Dm (ops:Array Oper):Option (Nat×Bool)→Option (Option<|Nat×Bool)
 |none=>some none
 |some (j,b)=>match(ops[j]?).bind (·.dst)with
  |some d=>some (some (d,b))|none=>none
def B5 (P:Program)(ops:Array Oper)(o:Oper):Option AOper:=
 match Dm ops o.guard with
 |some g=>match Au P o.op with
  |some op=>some ⟨o.dst,g,op⟩|none=>none
 |none=>none
def Bh (P:Program)(ops:Array Oper):List Oper→Option (List AOper)
 | []=>some []
 |o::r=>match B5 P ops o with
  |some a=>match Bh P ops r with
   |some l=>some (a::l)|none=>none
  |none=>none
def loud (a:AOper):Bool:=match a.op with
 |.call _ _=>false|op=>bK 2 op.kind
def useC (l:List AOper)(p:SP):Bool:=!(Zj p)&&(((p.states.all λx=>bK (N<|p.steps x) 1)&&l.any loud)||(bK 2 (N<|l.filter loud)&&bK 20 p.n))
def Bo (P:Program):Code→Option ACode
 |.skip=>some .skip
 |.region _ ops d=>match Bh P ops ops.toList with
  |some l=>cond d (cond (It P ops<|Ey P ops.toList) (some<|cond (useC l<|Ey P ops.toList) (.drawC l<|Ey P ops.toList)<|.draw l<|Zj<|Ey P ops.toList)<|some .stuck) (some<|.ops l)|none=>some .stuck
 |.seq x y=>match Bo P x with
  |some a=>match Bo P y with
   |some b=>some (.seq a b)|none=>none
  |none=>none
 |.cond c x y=>match An c with
  |some c'=>match Bo P x with
   |some a=>match Bo P y with
    |some b=>some (.cond c' a b)|none=>none
   |none=>none
  |none=>some .stuck
 |.block id c=>match Bo P c with
  |some a=>some (.block id a)|none=>none
 |.loop c=>match Bo P c with
  |some a=>some (.loop a)|none=>none
 |.exit id=>some (.exit id)|.ret=>some .ret
 |.scope c=>match Bo P c with
  |some a=>some (.scope a)|none=>none
 |.label _=>some .mark|_=>some .stuck
section
variable (P : Program) (W0 : World) (G : List (Nat × AVal))
def Hj (o:AOper)(s:St)(K:St→Prop):Prop:=
 match o.guard with
 |none=>Ic P W0 s.H (aop G s o.op) λv H'=>Ru s o.dst v H' K
 |some (d,want)=>match s.env.get d with
  |some (.bool b)=>cond (cond b want<|not want) (Ic P W0 s.H (aop G s o.op) λv H'=>Ru s o.dst v H' K) (Ru s o.dst (.tup []) s.H K)|some (.tup [])=>Ru s o.dst (.tup []) s.H K|_=>False
def Az :List AOper→St→(St→Prop)→Prop
 | [],s,K=>K s|o::r,s,K=>Hj P W0 G o s λs'=>Az r s' K
end
section
variable {P : Program} {W0 : World} {G : List (Nat × AVal)}
theorem Zd {H:Hz}{r:Option ARes}{K K':AVal→Hz→Prop}(hk:∀v H',K v H'→K' v H')(h:Ic P W0 H r K):Ic P W0 H r K':=by unfold Ic at h⊢;grind
theorem OQ {s:St}{dst:Option Nat}{v:AVal}{H:Hz}{K K':St→Prop}(hk:∀s,K s→K' s)(h:Ru s dst v H K):Ru s dst v H K':=by unfold Ru at h⊢;grind
theorem GX {ops:Array Oper}{o:Oper}{s:St}{K K':St→Prop}(hk:∀s,K s→K' s)(h:J6 P W0 G ops o s K):J6 P W0 G ops o s K':=by grind[J6,Zd,OQ]
theorem Nq {ops:Array Oper}{o:Oper}{a:AOper}(hc:B5 P ops o=some a){s:St}{K:St→Prop}(h:Hj P W0 G a s K):J6 P W0 G ops o s K:=by
 unfold B5 at hc;cases hg:Dm ops o.guard with
 |none=>rw[hg]at hc;cases hc
 |some g=>
  rw[hg]at hc;simp only at hc;cases hop:Au P o.op with
  |none=>rw[hop]at hc;cases hc
  |some op=>
   rw[hop]at hc;injection hc with hc;subst hc;unfold J6;cases hgd:o.guard with
   |none=>rw[hgd]at hg;simp only[Dm,iS]at hg;subst hg;simp only[D9,hop];exact h
   |some gw=>
    obtain⟨j,want⟩:=gw;rw[hgd]at hg;simp only[Dm]at hg;cases hd:(ops[j]?).bind (·.dst)with
    |none=>rw[hd]at hg;cases hg
    |some d=>
     rw[hd]at hg;simp only[iS]at hg;subst hg;simp only[D9,hd];simp only[Hj]at h;split at h;·grind
     ·grind
     ·exact h.elim
theorem FK {ops:Array Oper}:∀{l:List Oper}{az:List AOper},Bh P ops l=some az→∀{s:St}{K:St→Prop},Az P W0 G az s K→Pm P W0 G ops l s K
 | [],az,hc,s,K,h=>by simp only[Bh,iS]at hc;subst hc;exact h
 |o::r,az,hc,s,K,h=>by
  simp only[Bh]at hc;cases ho:B5 P ops o with
  |none=>rw[ho]at hc;cases hc
  |some a=>
   rw[ho]at hc;simp only at hc;cases hr:Bh P ops r with
   |none=>rw[hr]at hc;cases hc
   |some l=>rw[hr]at hc;injection hc with hc;subst hc;simp only[Az]at h;simp only[Pm];exact GX (λs' h'=>FK hr h')<|Nq ho h
end
def ExA (P:Program)(W0:World)(a:ACode)(s:St)(K:Aj→St→Prop):Prop:=∀c,Bo P c=some a→Ex P W0 c s K
structure Gr (P:Program)(W0:World)(G:List<|Nat×AVal):Prop where
 g:GOK W0 G
 mixed:P.follows .mixedOrders=true
section
variable {P : Program} {W0 : World} {G : List (Nat × AVal)} {s : St} {K : Aj → St → Prop}
theorem ExA.mono {a:ACode}{K':Aj→St→Prop}(h:ExA P W0 a s K)(hk:∀e s',K e s'→K' e s'):ExA P W0 a s K':=λc hc=>(h c hc).mono hk
theorem CC {id:Nat}{ops:Array Oper}{d:Bool}{a:ACode}(h:Bo P (.region id ops d)=some a):a= .stuck∨∃l,Bh P ops ops.toList=some l∧((d=false∧a= .ops l)∨(d=true∧It P ops (Ey P ops.toList)=true∧(a= .draw l (Zj<|Ey P ops.toList)∨a= .drawC l (Ey P ops.toList)))):=by simp only[Bo]at h;grind
theorem ExA.skip (h:K .normal s):ExA P W0 .skip s K:=λc hc=>by cases c<;>grind[Ex.skip,Bo]
theorem Un {c:Code}{l:List AOper}(h:Bo P c=some (.ops l)):∃id ops,c= .region id ops false∧Bh P ops ops.toList=some l:=by cases c<;>grind[Bo]
theorem Nb {c:Code}{l:List AOper}{b:Bool}(h:Bo P c=some (.draw l b)):∃id ops,c= .region id ops true∧Bh P ops ops.toList=some l∧It P ops (Ey P ops.toList)=true∧Zj (Ey P ops.toList)=b:=by cases c<;>grind[Bo]
theorem V6 {c:Code}{l:List AOper}{p:SP}(h:Bo P c=some (.drawC l p)):∃id ops,c= .region id ops true∧Bh P ops ops.toList=some l∧It P ops p=true:=by cases c<;>grind[Bo]
theorem Pv {c:Code}{x y:ACode}(h:Bo P c=some (.seq x y)):∃a b,c= .seq a b∧Bo P a=some x∧Bo P b=some y:=by cases c<;>grind[Bo]
theorem Nl {c:Code}{o:AOpd}{x y:ACode}(h:Bo P c=some (.cond o x y)):∃p a b,c= .cond p a b∧An p=some o∧Bo P a=some x∧Bo P b=some y:=by
 cases c with
 |region id ops d=>rcases CC h with h2|⟨l,_,⟨_,h2⟩|⟨_,_,h2|h2⟩⟩<;>cases h2
 |cond p a b=>
  simp only[Bo]at h;split at h;·grind
  ·cases h
 |_=>simp only[Bo,reduceCtorEq]at h<;>(repeat' (split at h))<;>cases h
theorem Ou {c:Code}{id:Nat}{x:ACode}(h:Bo P c=some (.block id x)):∃a,c= .block id a∧Bo P a=some x:=by cases c<;>grind[Bo]
theorem Gl {c:Code}{x:ACode}(h:Bo P c=some (.loop x)):∃a,c= .loop a∧Bo P a=some x:=by cases c<;>grind[Bo]
theorem IB {c:Code}{id:Nat}(h:Bo P c=some (.exit id)):c= .exit id:=by cases c<;>grind[Bo]
theorem MT {c:Code}(h:Bo P c=some .ret):c= .ret:=by cases c<;>grind[Bo]
theorem FU {c:Code}{x:ACode}(h:Bo P c=some (.scope x)):∃a,c= .scope a∧Bo P a=some x:=by cases c<;>grind[Bo]
theorem IA {c:Code}(h:Bo P c=some .mark):∃l,c= .label l:=by cases c<;>grind[Bo]
theorem ExA.ops (hg:Gr P W0 G){l:List AOper}(h:Az P W0 G l s<|K .normal):ExA P W0 (.ops l) s K:=λc hc=>by obtain⟨id,ops,rfl,h1⟩:=Un hc;exact Ex.region hg.g<|FK h1 h
theorem ExA.seq {x y:ACode}(h:ExA P W0 x s λe s'=>e.then s' (λs'=>ExA P W0 y s' K) K):ExA P W0 (.seq x y) s K:=λc hc=>by obtain⟨a,b,rfl,ha,hb⟩:=Pv hc;refine Ex.seq<|(h a ha).mono λe s' hk=>?_;cases e with|normal=>exact hk b hb|exit id=>exact hk|ret=>exact hk
theorem ExA.cond (hg:Gr P W0 G){c:AOpd}{x y:ACode}{b:Bool}(hv:ev G s c=some (.bool b))(ht:b=true→ExA P W0 x s K)(hf:b=false→ExA P W0 y s K):ExA P W0 (.cond c x y) s K:=λk hk=>by obtain⟨p,a,d,rfl,hp,ha,hd⟩:=Nl hk;exact Ex.cond hg.g hp hv (λh=>ht h a ha)<|λh=>hf h d hd
theorem ExA.block {id:Nat}{x:ACode}(h:ExA P W0 x s<|Aj.inBlock id K):ExA P W0 (.block id x) s K:=λc hc=>by obtain⟨a,rfl,ha⟩:=Ou hc;exact Ex.block<|h a ha
theorem ExA.exit {id:Nat}(h:K (.exit id) s):ExA P W0 (.exit id) s K:=λc hc=>by rw[IB hc];exact Ex.exit h
theorem ExA.ret (h:K .ret s):ExA P W0 .ret s K:=λc hc=>by grind[MT,Ex.ret]
end
abbrev yV (d:Nat)(x:AOp):AOper:=⟨some d,none,x⟩
abbrev yM (d t:Nat):AOper:=⟨some d,none,.move<|.tmp t⟩
abbrev yT (d g:Nat)(x:AOp):AOper:=⟨some d,some (g,true),x⟩
abbrev yF (d g:Nat)(x:AOp):AOper:=⟨some d,some (g,false),x⟩
abbrev yN (x:AOp):AOper:=⟨none,none,x⟩
instance (n:Nat):OfNat AOpd n:=⟨.tmp n⟩
abbrev kF (f:Nat)(x:List AOpd):AOp:=.call (.val<|.fn f [] []) x
abbrev vI (n:Int):AOpd:=.val<|.int .i64 n
abbrev sQ (x:List AOper)(y:ACode):ACode:=.seq (.ops x) y
abbrev z0L :List AVal:=[.bool false,.int .i8 0,.int .i8 0,.int .i8 0,.int .i8 0,.int .i8 0,.int .i8 0,.int .i8 0,.int .i8 0,.int .i8 0,.int .i8 0,.int .i8 0,.int .i8 0,.int .i8 0,.int .i8 0,.int .i8 0,.int .i8 0,.int .i8 0,.int .i8 0,.int .i8 0,.int .i8 0,.int .i8 0,.int .i8 0,.int .i8 0,.int .i8 0,.int .i8 0,.int .i8 0,.int .i8 0,.int .i8 0,.int .i8 0,.int .i8 0,.int .i8 0,.int .i8 0,.int .i8 0,.int .i8 0,.int .i8 0,.int .i8 0,.int .i8 0,.int .i8 0,.int .i8 0,.int .i8 0,.int .i8 0,.int .i8 0,.int .i8 0,.int .i8 0,.int .i8 0,.int .i8 0,.int .i8 0,.int .i8 0,.int .i8 0,.int .i8 0,.int .i8 0,.int .i8 0,.int .i8 0,.int .i8 0,.int .i8 0,.int .i8 0,.int .i8 0,.int .i8 0,.int .i8 0,.int .i8 0,.int .i8 0,.int .i8 0,.int .i8 0,.int .i8 0,.int .i8 0,.int .i8 0,.int .i8 0,.int .i8 0,.int .i8 0,.int .i8 0,.int .i8 0,.int .i8 0,.int .i8 0,.int .i8 0,.int .i8 0,.int .i8 0,.int .i8 0,.int .i8 0,.int .i8 0,.int .i8 0,.int .i8 0,.int .i8 0,.int .i8 0,.int .i8 0,.int .i8 0,.int .i8 0,.int .i8 0,.int .i8 0,.int .i8 0,.int .i8 0,.int .i8 0,.int .i8 0,.int .i8 0,.int .i8 0,.int .i8 0,.int .i8 0,.bool false]
abbrev z1L :List AVal:=[.bool false,.int .i8 0,.int .i8 0,.int .i8 0,.int .i8 0,.int .i8 0,.int .i8 0,.int .i8 0,.int .i8 0,.int .i8 0,.int .i8 0,.int .i8 0,.int .i8 0,.int .i8 0,.int .i8 0,.int .i8 0,.int .i8 0,.int .i8 0,.int .i8 0,.int .i8 0,.int .i8 0,.int .i8 0,.int .i8 0,.int .i8 0,.int .i8 0,.int .i8 0,.int .i8 0,.int .i8 0,.int .i8 0,.int .i8 0,.int .i8 0,.int .i8 0,.int .i8 0,.int .i8 0,.int .i8 0,.int .i8 0,.int .i8 0,.int .i8 0,.int .i8 0,.int .i8 0,.int .i8 0,.int .i8 0,.int .i8 0,.int .i8 0,.int .i8 0,.int .i8 0,.int .i8 0,.int .i8 0,.int .i8 0,.int .i8 4,.int .i8 0,.int .i8 0,.int .i8 0,.int .i8 0,.int .i8 0,.int .i8 0,.int .i8 0,.int .i8 0,.int .i8 0,.int .i8 0,.int .i8 0,.int .i8 0,.int .i8 0,.int .i8 0,.int .i8 0,.int .i8 0,.int .i8 0,.int .i8 0,.int .i8 0,.int .i8 0,.int .i8 0,.int .i8 0,.int .i8 0,.int .i8 0,.int .i8 0,.int .i8 0,.int .i8 0,.int .i8 0,.int .i8 0,.int .i8 0,.int .i8 0,.int .i8 0,.int .i8 0,.int .i8 0,.int .i8 0,.int .i8 0,.int .i8 0,.int .i8 0,.int .i8 0,.int .i8 0,.int .i8 0,.int .i8 0,.int .i8 0,.int .i8 0,.int .i8 0,.int .i8 0,.int .i8 0,.bool false]
abbrev z2L :List AVal:=[.bool false,.int .i8 0,.int .i8 0,.int .i8 0,.int .i8 0,.int .i8 0,.int .i8 0,.int .i8 0,.int .i8 0,.int .i8 0,.int .i8 0,.int .i8 0,.int .i8 0,.int .i8 0,.int .i8 0,.int .i8 0,.int .i8 0,.int .i8 0,.int .i8 0,.int .i8 0,.int .i8 0,.int .i8 0,.int .i8 0,.int .i8 0,.int .i8 0,.int .i8 0,.int .i8 0,.int .i8 0,.int .i8 0,.int .i8 0,.int .i8 0,.int .i8 0,.int .i8 0,.int .i8 0,.int .i8 0,.int .i8 0,.int .i8 0,.int .i8 0,.int .i8 0,.int .i8 0,.int .i8 0,.int .i8 0,.int .i8 0,.int .i8 0,.int .i8 0,.int .i8 0,.int .i8 0,.int .i8 0,.int .i8 0,.int .i8 3,.int .i8 0,.int .i8 0,.int .i8 0,.int .i8 0,.int .i8 0,.int .i8 0,.int .i8 0,.int .i8 0,.int .i8 0,.int .i8 0,.int .i8 0,.int .i8 0,.int .i8 0,.int .i8 0,.int .i8 0,.int .i8 0,.int .i8 0,.int .i8 0,.int .i8 0,.int .i8 0,.int .i8 0,.int .i8 0,.int .i8 0,.int .i8 0,.int .i8 0,.int .i8 0,.int .i8 0,.int .i8 0,.int .i8 0,.int .i8 0,.int .i8 0,.int .i8 0,.int .i8 0,.int .i8 0,.int .i8 0,.int .i8 0,.int .i8 0,.int .i8 0,.int .i8 0,.int .i8 0,.int .i8 0,.int .i8 0,.int .i8 0,.int .i8 0,.int .i8 0,.int .i8 0,.int .i8 0,.bool false]
abbrev z3L :List AVal:=[.bool false,.int .i8 0,.int .i8 0,.int .i8 0,.int .i8 0,.int .i8 0,.int .i8 0,.int .i8 0,.int .i8 0,.int .i8 0,.int .i8 0,.int .i8 0,.int .i8 0,.int .i8 0,.int .i8 0,.int .i8 0,.int .i8 0,.int .i8 0,.int .i8 0,.int .i8 0,.int .i8 0,.int .i8 0,.int .i8 0,.int .i8 0,.int .i8 0,.int .i8 0,.int .i8 0,.int .i8 0,.int .i8 0,.int .i8 0,.int .i8 0,.int .i8 0,.int .i8 0,.int .i8 0,.int .i8 0,.int .i8 0,.int .i8 0,.int .i8 0,.int .i8 0,.int .i8 0,.int .i8 0,.int .i8 0,.int .i8 0,.int .i8 0,.int .i8 0,.int .i8 0,.int .i8 0,.int .i8 0,.int .i8 0,.int .i8 2,.int .i8 0,.int .i8 0,.int .i8 0,.int .i8 0,.int .i8 0,.int .i8 0,.int .i8 0,.int .i8 0,.int .i8 0,.int .i8 0,.int .i8 0,.int .i8 0,.int .i8 0,.int .i8 0,.int .i8 0,.int .i8 0,.int .i8 0,.int .i8 0,.int .i8 0,.int .i8 0,.int .i8 0,.int .i8 0,.int .i8 0,.int .i8 0,.int .i8 0,.int .i8 0,.int .i8 0,.int .i8 0,.int .i8 0,.int .i8 0,.int .i8 0,.int .i8 0,.int .i8 0,.int .i8 0,.int .i8 0,.int .i8 0,.int .i8 0,.int .i8 0,.int .i8 0,.int .i8 0,.int .i8 0,.int .i8 0,.int .i8 0,.int .i8 0,.int .i8 0,.int .i8 0,.int .i8 0,.bool false]
abbrev z4L :List AVal:=[.bool false,.int .i8 0,.int .i8 0,.int .i8 0,.int .i8 0,.int .i8 0,.int .i8 0,.int .i8 0,.int .i8 0,.int .i8 0,.int .i8 0,.int .i8 0,.int .i8 0,.int .i8 0,.int .i8 0,.int .i8 0,.int .i8 0,.int .i8 0,.int .i8 0,.int .i8 0,.int .i8 0,.int .i8 0,.int .i8 0,.int .i8 0,.int .i8 0,.int .i8 0,.int .i8 0,.int .i8 0,.int .i8 0,.int .i8 0,.int .i8 0,.int .i8 0,.int .i8 0,.int .i8 0,.int .i8 0,.int .i8 0,.int .i8 0,.int .i8 0,.int .i8 0,.int .i8 0,.int .i8 0,.int .i8 0,.int .i8 0,.int .i8 0,.int .i8 0,.int .i8 0,.int .i8 0,.int .i8 0,.int .i8 0,.int .i8 1,.int .i8 0,.int .i8 0,.int .i8 0,.int .i8 0,.int .i8 0,.int .i8 0,.int .i8 0,.int .i8 0,.int .i8 0,.int .i8 0,.int .i8 0,.int .i8 0,.int .i8 0,.int .i8 0,.int .i8 0,.int .i8 0,.int .i8 0,.int .i8 0,.int .i8 0,.int .i8 0,.int .i8 0,.int .i8 0,.int .i8 0,.int .i8 0,.int .i8 0,.int .i8 0,.int .i8 0,.int .i8 0,.int .i8 0,.int .i8 0,.int .i8 0,.int .i8 0,.int .i8 0,.int .i8 0,.int .i8 0,.int .i8 0,.int .i8 0,.int .i8 0,.int .i8 0,.int .i8 0,.int .i8 0,.int .i8 0,.int .i8 0,.int .i8 0,.int .i8 0,.int .i8 0,.int .i8 0,.bool false]
abbrev z5L :List AVal:=[.int .i64 0,.int .i64 0]
abbrev z6L :List AVal:=[.str [],.int .i64 0,.int .i64 0,.bool false,.bool false,.bool false]
abbrev z7L :List AVal:=[.int .i64 0,.int .i64 0,.int .i64 0]
abbrev z8L :List AVal:=[.int .i64 0,.int .i64 0,.int .i64 0,.int .i64 0,.int .i64 0,.str [],.int .i64 0,.bool false]
abbrev z9L :List AVal:=[.int .i64 0,.int .i64 0,.int .i64 0,.int .i64 0,.int .i64 0,.int .i64 0,.int .i64 0,.int .i64 0,.int .i64 0,.int .i64 0,.int .i64 0,.int .i64 0,.int .i64 0,.str [],.bool false]
abbrev Vr :List AVal:=[.nilSl,.nilSl,.nilSl,.nilSl]
abbrev PK :List AVal:=[.int .i64 4,.int .i64 0]
abbrev UN :List AVal:=[.int .i64 3,.int .i64 0]
abbrev UU :List AVal:=[.int .i64 2,.int .i64 0]
abbrev QC :List AVal:=[.int .i64 1,.int .i64 0]
end Go.Abs
