/- A part of the proof that tabula/tabulalaw25.PackBack returns true for every input, each argument reading as it did (its card: the last text). No conditions of its own. -/
import Derived.Calls
import Derived.Below
import Derived.Laws.Sem
import Derived.Laws.World
import Derived.Laws.AppendOwn
import Derived.KernelRfl
import Derived.Scope
import Derived.Laws.Cells
import Derived.Laws.CopyRow
import Derived.Laws.Rows
import Derived.Laws.Tables
import Derived.Laws.Strings
import Derived.Laws.Strings2
import Derived.Laws.Append
import Derived.Laws.CopyOwn
import Derived.Laws.BytesString
import Derived.Laws.BytesArg
import Derived.Laws.RangeString
import Derived.Laws.StructEq
import Derived.ChangeKeysEq
import Derived.MapKept
set_option linter.unusedVariables false
set_option linter.unusedSimpArgs false
open List renaming length->N
open Array renaming toArray_toList->aW,range->bV,length_toList->cA,foldl_toList->dJ,toList_range->dL,ext'->dU
open BitVec renaming ofInt->cI
open ByteArray renaming mk->aK,size->dW
open Go.Addr renaming add->dT
open Go.Builtin renaming zeroCells->aJ,append_->bP,clear_->cX,len_->dI,firstCells->dK
open Go.Conv renaming bytesToString->dO
open Go.Deferred renaming ofValue->cL
open Go.Instr renaming sliceAt->aM,indexAt->aV,sureAddr->aX,sliceBounds->bH,fill->bZ,slice->cC,loadAt->cH,storeAt->dE,next->dV
open Go.MapKept renaming IsKey->cD,run_getObj_map->cU,run_checkKey->dD,run_findKey->dH,bytes_beq->dQ
open Go.Op renaming equalIn->aB
open Go.Result renaming andThen_ok->bG
open Go.RowKit.Below renaming heap_alloc->aY
open Go.Sem renaming run_pure->aQ,run_bind->cG
open Go.Value renaming int->dM
open Go.World renaming block_lt_of_cell?->cR
open Int renaming toNat_zero->cW,le_refl->dS
open List renaming getElem?_eq_some_iff->aC,getElem?_concat_length->aD,getElem?_append_left->aI,getElem?_set_self->bD,eq_nil_of_length_eq_zero->bF,pairwise_iff_getElem->bO,take_of_length_le->bU,getElem?_toArray->bW,take_append_drop->bX,getElem?_set_ne->bY,append_assoc->cE,mem_of_mem_take->dA
open Nat renaming beq->aA,ne_of_beq_eq_false->aL,le_of_ble_eq_true->aO,mul_le_mul_right->aS,add_zero->aZ,blt->bB,le_refl->bC,add_mul->bE,le_trans->bI,div->bJ,ble->bK,mod->bN,zero_add->bS,zero_mul->cJ,eq_of_beq_eq_true->cV,pred->cZ,sub_le_sub_right->dC,pred_eq_sub_one->dG,sub_zero->dP
open Option renaming map_some->bQ,map_eq_some_iff->bT,isSome_iff_exists->cO,getD_none->cQ,getD->dR
namespace Go.Abs
theorem Y {p:Prop}(h:p:=by omega):p:=h
theorem V {p:Prop}(h:p:=by decide):p:=h
theorem Em {p:Prop}(h:p:=by revert hr;revert rw;revert hc;revert cl;decide):p:=h
theorem Cc {p:Prop}(h:p:=by with_unfolding_all exact rfl):p:=h
theorem Ar {p:Prop}(h:p:=by kernel_rfl):p:=h
theorem Va {p:Prop}(h:p:=by first|exact trivial|decide|(simp only[Ah,C0,and_true,lCo];omega)):p:=h
theorem bY6 {p:Prop}(h:p:=by first|exact trivial|(simp only[Ah,and_true,lCo,lNi,lAp];omega)):p:=h
theorem bY7 {p:Prop}(h:p:=by simp only[B7,A8,blw,hc,Bc,Ci,B8,Av,cond_true,Uk,lCo,lNi,lAp,wbH,List.cons_append,List.nil_append,us,List.set,Bm,Ce,List.map];rfl):p:=h
theorem bY8 {p:Prop}(h:p:=by simp only;omega):p:=h
theorem B4 {p:Prop}(h:p:=by simp):p:=h
theorem Yw {p:Prop}(h:p:=by simp only[Ah,and_true,lAp,lCo,lNi];omega):p:=h
theorem DN {p:Prop}(h:p:=by first|exact trivial|decide|(simp only[Bl,Di,Ah,and_true,Do,lCo,lNi];omega)):p:=h
theorem GQ {p:Prop}(h:p:=by first|exact trivial|decide|(simp only[Bl,Di,Ah,and_true];omega)):p:=h
theorem K7 {p:Prop}(h:p:=by simp only[Ah,and_true];omega):p:=h
theorem EK {p:Prop}(h:p:=by first|exact trivial|(simp only[Ah,and_true];omega)):p:=h
theorem Jj {p:Prop}(h:p:=by rw[dB_nat hr];omega):p:=h
theorem Jk {p:Prop}(h:p:=by rw[cB_nat hc];omega):p:=h
theorem Of {p:Prop}(h:p:=by simpa only[ren,Rep]using hr):p:=h
theorem Jo {p:Prop}(h:p:=by simp;omega):p:=h
theorem bY26 {p:Prop}(h:p:=by rw[List.length_take];omega):p:=h
theorem NE {p:Prop}(h:p:=by rw[dN1];exact M8 (id:=1) (l:=[1]) (by decide) rfl):p:=h
theorem bY32 {p:Prop}(h:p:=by first|exact trivial|(simp only[Ah,C0,and_true,lCo,lNi];omega)):p:=h
theorem bY36 {p:Prop}(h:p:=by first|exact trivial|(simp only[Ah,and_true,show N fls=9 from rfl];omega)):p:=h
theorem bY37 {p:Prop}(h:p:=by simp_all[Cb,Eb,wrapB]<;>omega):p:=h
theorem bY43 {p:Prop}(h:p:=by first|exact Uh|exact Xg (by decide)):p:=h
theorem bY45 {p:Prop}(h:p:=by simp only[B7,A8,blw,hbk,hhv,Bc,Ci,Cf,cond_true,Uk,lCo,lNi,lAp,Hl,List.cons_append,List.nil_append,us,List.set,Bm,Ce,List.map];rfl):p:=h
theorem bY46 {p:Prop}(h:p:=by show cond (A8 3 [.row 2<|shs.map psV,.row 3 nl,.row 6 tl,.row 8<|rs.map rlV]) (cond true (cond (cond (A8 3<|(shs.getD i ps0).cs.map pcV) true false) true false) false) false=true;rw[P0 hn ht,B8];rfl):p:=h
theorem bY47 {p:Prop}(h:p:=by first|(simp only[Bl,Ah,and_true];rw[hR];simp only[lAp,lCo];omega)|(simp only[Bl,Ah,and_true,lAp,lCo,lNi];omega)|trivial):p:=h
theorem bY48 {p:Prop}(h:p:=by simp only[Bl,Ah,and_true];omega):p:=h
theorem bY49 {p:Prop}(h:p:=by simp only[lAp,List.length_drop,List.length_take];omega):p:=h
theorem FY {p:Prop}(h:p:=by rw[M6];simp):p:=h
theorem Hq {p:Prop}(h:p:=by cases h):p:=h
theorem bY54 {p:Prop}(h:p:=by rw[dN1];exact M8 (id:=1) (l:=[1]) (Nat.le_refl _) rfl):p:=h
theorem bY60 {p:Prop}(h:p:=by rw[List.take_zero,List.flatMap_nil,List.append_nil];rfl):p:=h
theorem Jm {p:Prop}(h:p:=by rfl):p:=h
theorem FW {p:Prop}(h:p:=by rw[Qa];exact hs):p:=h
theorem bY64 {p:Prop}(h:p:=by show _=some (ARes.val (.str t) _ _);rw[←hdt];rfl):p:=h
theorem bY67 {p:Prop}(h:p:=by simp only[Rep]at hr⊢;exact⟨hr.1,hr.2.ext h⟩):p:=h
theorem GA {p:Prop}(h:p:=by simp[blw,Nat.blt]at h):p:=h
theorem NM {p:Prop}(h:p:=by simp[A8,blw,dg,Bc]):p:=h
theorem Vy {p:Prop}(h:p:=by simp[Rep]):p:=h
theorem PJ {p:Prop}(h:p:=by simp only[Ah,and_true,C0];omega):p:=h
theorem bY74 {p:Prop}(h:p:=by show cond (A8 0 l) true false=true;rw[h3];rfl):p:=h
theorem bY75 {p:Prop}(h:p:=by simpa using h):p:=h
theorem bY76 {p:Prop}(h:p:=by simpa using ho):p:=h
theorem bY79 {p:Prop}(h:p:=by simp only;have:=hI.e;omega):p:=h
theorem bY80 {p:Prop}(h:p:=by rw[wrS (by omega) (by omega)];exact Q9 hk (by omega) (by omega)):p:=h
theorem bY81 {p:Prop}(h:p:=by rw[wrS (by omega) (by omega)];exact Q3 hk (by omega) (by omega)):p:=h
theorem bY82 {p:Prop}(h:p:=by rw[wrS (by omega) (by omega)];exact Q2 hk (by omega) (by omega)):p:=h
theorem bY83 {p:Prop}(h:p:=by rw[wrS (by omega) (by omega)];exact Pz hk (by omega) (by omega)):p:=h
theorem IL {p:Prop}(h:p:=by simp[ByteArray.size]):p:=h
theorem bY87 {p:Prop}(h:p:=by show cond (A8 2<|nb b l m) true false=true;rw[Jn];rfl):p:=h
theorem TG {p:Prop}(h:p:=by simp only[frz,Uk h,cond_true]):p:=h
theorem PS {p:Prop}(h:p:=by simp[sizeOf,Et w hi]):p:=h
theorem IX {p:Prop}(h:p:=by rw[←hh.len];simp):p:=h
theorem bY104 {p:Prop}(h:p:=by simp only[ren,Rep]at hr⊢;obtain⟨vs,rfl,h2⟩:=hr;exact⟨vs,rfl,Ab.down h cs vs hb h2⟩):p:=h
theorem bY106 {p:Prop}(h:p:=by first|exact dF (by omega)|(rw[bFn];omega)|(rw[bNf];omega)):p:=h
theorem bY110 {p:Prop}(h:p:=by simp only[ren,Rep]at hr⊢;obtain⟨vs,rfl,h2⟩:=hr;exact⟨vs,rfl,Ab.up h cs vs h2⟩):p:=h
theorem bY111 {p:Prop}(h:p:=by first|exact trivial|decide|(simp only[Bl,Di,Ah,and_true,C0,List.length_map];omega)):p:=h
theorem Z4 {p:Prop}(h:p:=by simp[Ab]):p:=h
theorem bY118 {p:Prop}(h:p:=by rw[List.take_length,e8];try rfl):p:=h
theorem Zx {p:Prop}(h:p:=by simp only[Rep]):p:=h
theorem EB {p:Prop}(h:p:=by rw[h.blk id hid];exact r1):p:=h
theorem bY125 {p:Prop}(h:p:=by simpa only[Ab]using hr):p:=h
theorem EQ {p:Prop}(h:p:=by rw[hrs.size,←hn,h6]):p:=h
theorem bY129 {p:Prop}(h:p:=by rw[beq_iff_eq]at h1;exact h1):p:=h
theorem bY134 {p:Prop}(h:p:=by simp only[Ah,and_true,C0,lAp,lCo,lNi];omega):p:=h
theorem bY135 {p:Prop}(h:p:=by first|exact decide_eq_true (by omega)|(rw[beq_iff_eq];omega)|(rw[bne_iff_ne];omega)):p:=h
theorem bY137 {p:Prop}(h:p:=by simp[Ba,Yy,CQ,EL,Ws];exact hs):p:=h
theorem RA {p:Prop}(h:p:=by rw[L9 pc0 hjl,←List.append_assoc]):p:=h
theorem KJ {p:Prop}(h:p:=by rw[←hR];exact ha.ascR):p:=h
theorem bY144 {p:Prop}(h:p:=by rw[IntKind.wrap_u8];omega):p:=h
theorem bY145 {p:Prop}(h:p:=by simp only[Ah,C0,and_true,lAp,List.length_replicate];omega):p:=h
theorem AA {p:Prop}(h:p:=by cases dst<;>rfl):p:=h
theorem bY147 {p:Prop}(h:p:=by rw[sRb,hg,rAo];simp only[binOp,Op.shift,if_neg h0];rfl):p:=h
theorem UB {p:Prop}(h:p:=by simp[zeroValue,Et w hi,hzz]):p:=h
theorem bY157 {p:Prop}(h:p:=by rw[List.take_zero,List.flatMap_nil,List.append_nil];exact frS<|Ci _):p:=h
theorem KI {p:Prop}(h:p:=by simp[blw,Nat.blt_eq]at h):p:=h
theorem bY169 {p:Prop}(h:p:=by simp only[Bl,Ah,and_true,lCo,lNi];omega):p:=h
theorem RZ {p:Prop}(h:p:=by rw[lAp,Ak];omega):p:=h
theorem bY174 {p:Prop}(h:p:=by simp only[binOp,ne_eq,not_true,if_false,Op.intDiv,if_neg<|nz hs.1];rfl):p:=h
theorem PY {p:Prop}(h:p:=by simpa only[Rep]using hr):p:=h
theorem JU {p:Prop}(h:p:=by simp[Region.wanted,hgd]):p:=h
theorem Tf {p:Prop}(h:p:=by simp at h):p:=h
theorem bY183 {p:Prop}(h:p:=by have:=List.length_pos_iff.2 hne;simp only[Ah,and_true];omega):p:=h
theorem bY186 {p:Prop}(h:p:=by show SP.mayB _ 32 1=true;rfl):p:=h
theorem bY187 {p:Prop}(h:p:=by rw[Is];exact Nat.beq_refl _):p:=h
theorem bY191 {p:Prop}(h:p:=by simpa using he):p:=h
theorem Ze {p:Prop}(h:p:=by simp[u8c]):p:=h
theorem bY198 {p:Prop}(h:p:=by simpa using ha):p:=h
theorem bY201 {p:Prop}(h:p:=by simp only[Rep];exact⟨[],rfl,by simp[Ab]⟩):p:=h
theorem bY205 {p:Prop}(h:p:=by show cond (A8 0 nd) true false=true;rw[h3];rfl):p:=h
theorem bY206 {p:Prop}(h:p:=by show N (sel.map _)=_;rw[List.length_map,hs.len]):p:=h
theorem bY208 {p:Prop}(h:p:=by rw[hcl];simp):p:=h
theorem LL {p:Prop}(h:p:=by rw[ET,Nat.mul_one]):p:=h
theorem bY210 {p:Prop}(h:p:=by rw[lAp];rfl):p:=h
theorem Z.{u}{α:Sort u}{a:α}:a=a:=rfl
theorem O :True:=trivial
end Go.Abs
namespace Go.Abs
open Go
abbrev Bz :Type:=List UInt8
abbrev iS :=@Option.some.injEq
abbrev lCo :=@List.length_cons
abbrev lAp :=@List.length_append
abbrev lNi :=@List.length_nil
abbrev nBq :=@cV
abbrev dFn :=@decide_eq_false_iff_not
abbrev bFn :=@beq_eq_false_iff_ne
abbrev iP :=@Prod.mk.injEq
abbrev bAt :=@Bool.and_eq_true
abbrev dTe :=@decide_eq_true_eq
abbrev rAo :=@bG
abbrev bNf :=@bne_eq_false_iff_eq
abbrev gSi :=@aC
abbrev oBi :=@Option.bind_eq_some_iff
abbrev gGe :=@List.getElem?_eq_getElem
abbrev oBb :=@Option.bind_eq_bind
abbrev mGe :=@List.mem_of_getElem?
abbrev lAt :=@List.all_eq_true
abbrev nLl :=@Nat.lt_of_lt_of_le
abbrev bFt :=@Bool.false_eq_true
abbrev dF :=@decide_eq_false
abbrev sRb :=@cG
abbrev aSi :=@Array.getElem?_eq_some_iff
end Go.Abs
namespace Go.Abs
open Go.RowKit
variable {F : Nat → Prop}
inductive AVal where
 |bool (b:Bool)|int (k:IntKind) (n:Int)|str (s:Bz)|agg (cs:List AVal)|tup (vs:List AVal)|nilSl|emp|row (k:Nat) (es:List AVal)|hsl (k id off len:Nat) (cap:Option Nat)|nilPtr|ptr (id off:Nat)|optr (id off len:Nat)|eptr (e:AVal) (off:Nat)|fn (f:FuncId) (first cap:List AVal)
 |nilFn|iface (t:TypeId) (v:AVal)|nilIf|mref (id:Nat)|nilMp
inductive HObj where
 |cells (T:TypeId) (cs:List AVal) (op:Bool)|iter (s:Bz) (pos:Nat)|mp (es:List<|Bz×Int)|dead
abbrev Hz :Type:=List HObj
def AVal.cells :AVal→List AVal
 |.agg cs=>cs|v=>[v]
def Dj (w:World)(b:Nat):Nat:=match w.heap[b]? with|some (.cells c _ _)=>c.size|_=>0
def flat (vs:List Value):List Value:=vs.flatMap λu=>u.cells.toList
def Ib (F:Nat→Prop)(bs:List Nat)(w:World)(a:Option Addr)(vs:List Value)(cap:Nat):Prop:=match a with|none=>vs=[]∧cap=0|some a=>a.spot=none∧N vs≤cap∧∀j u,(flat vs)[j]?=some u→(a.block∉bs∧¬F a.block)∧w.cell? ⟨a.block,a.off+j,none⟩=some u
def D1 (bs:List Nat)(H:Hz)(w:World)(k id off len:Nat)(cap:Option Nat)(v:Value):Prop:=
 match H[id]? with
 |some (.cells _ cs op)=>off+len*k≤N cs∧
  ((op=true→off=0∧len*k=N cs)→
   ∃b c,bs[id]?=some b∧v= .slice (some ⟨b,off,none⟩) len c∧len≤c∧(∀c',cap=some c'→c=c')∧(op=true→c≤maxLen∧c*k=Dj w b))
 |some .dead=>True|_=>False
def Fe (bs:List Nat)(H:Hz)(id off:Nat)(v:Value):Prop:=match H[id]? with|some (.cells _ _ false)=>∃b,bs[id]?=some b∧v= .pointer (some ⟨b,off,none⟩)|some (.iter _ _)=>∃b,bs[id]?=some b∧v= .pointer (some ⟨b,off,none⟩)|some .dead=>True|_=>False
def G8 (bs:List Nat)(H:Hz)(id off len:Nat)(v:Value):Prop:=match H[id]? with|some (.cells _ cs true)=>len≤N cs∧(N cs=len→∃b,bs[id]?=some b∧v= .pointer (some ⟨b,off,none⟩))|some .dead=>True|_=>False
def Jq :Nat→List (Bz×Int)→List MapEntry
 |_,[]=>[]|n,(k,v)::r=>{key:=.string ⟨k.toArray⟩,val:=.int .i64 v,born:=n}::Jq (n+1) r
def Hg (bs:List Nat)(H:Hz)(id:Nat)(v:Value):Prop:=match H[id]? with|some (.mp _)=>∃b,bs[id]?=some b∧v= .map (some b)|some .dead=>True|_=>False
mutual
def Rep (F : Nat → Prop) (bs : List Nat) (H : Hz) (w : World) : AVal → Value → Prop
  | .bool b, v => v = .bool b
  | .int k n, v => v = .int k n
  | .str s, v => v = .string ⟨s.toArray⟩
  | .agg cs, v => ∃ vs : List Value, v = .agg vs.toArray ∧ Ab F bs H w cs vs
  | .tup cs, v => ∃ vs : List Value, v = .tuple vs.toArray ∧ Ab F bs H w cs vs
  | .nilSl, v => v = .slice none 0 0
  | .emp, v => ∃ a, v = .slice (some a) 0 0
  | .row k es, v => ∃ a cap vs, v = .slice a (N es) cap ∧ Ab F bs H w es vs ∧ (∀ u ∈ vs, u.cells.size = k) ∧ Ib F bs w a vs cap
  | .hsl k id off len cap, v => (∃ a c, len ≤ c ∧ v = .slice (some a) len c) ∧ D1 bs H w k id off len cap v
  | .nilPtr, v => v = .pointer none
  | .ptr id off, v => (∃ a, v = .pointer (some a)) ∧ Fe bs H id off v
  | .optr id off len, v => (∃ a, v = .pointer (some a)) ∧ G8 bs H id off len v
  | .eptr e off, v => ∃ b base u, v = .pointer (some ⟨b, base + off, none⟩) ∧ Rep F bs H w e u ∧ (b ∉ bs ∧ ¬ F b) ∧ b < w.heap.size ∧ ∀ j x, u.cells.toList[j]? = some x → w.cell? ⟨b, base + j, none⟩ = some x
  | .fn f first cap, v => ∃ fs cs : List Value, v = .func (.func f) fs.toArray cs.toArray ∧ Ab F bs H w first fs ∧ Ab F bs H w cap cs
  | .nilFn, v => v = .nilFunc
  | .iface t x, v => ∃ u, v = .iface t u ∧ Rep F bs H w x u
  | .nilIf, v => v = .nilIface
  | .nilMp, v => v = .map none
  | .mref id, v => (∃ b, v = .map (some b)) ∧ Hg bs H id v
def Ab (F : Nat → Prop) (bs : List Nat) (H : Hz) (w : World) : List AVal → List Value → Prop
  | [], vs => vs = []
  | a :: az, vs => ∃ u us, vs = u :: us ∧ Rep F bs H w a u ∧ Ab F bs H w az us
end
def Bi (bs bs':List Nat)(w w':World)(i:Nat):HObj→HObj→Prop
 |.cells _ cs false,o'=>o'= .dead∨∃T' cs',o'= .cells T' cs' false∧N cs'=N cs∧bs'[i]?=bs[i]?|.cells _ cs true,o'=>o'= .dead∨∃T' cs',o'= .cells T' cs' true∧(N cs<N cs'∨N cs'=N cs∧bs'[i]?=bs[i]?∧∀b,bs[i]?=some b→Dj w' b=Dj w b)|.iter _ _,o'=>o'= .dead∨∃s p,o'= .iter s p∧bs'[i]?=bs[i]?|.mp _,o'=>o'= .dead∨∃es,o'= .mp es∧bs'[i]?=bs[i]?|.dead,o'=>o'= .dead
structure Ext (bs:List Nat)(H:Hz)(w:World)(bs':List Nat)(H':Hz)(w':World):Prop where
 size:w.heap.size≤w'.heap.size
 block:∀k,k<w.heap.size→k∉bs→w'.heap[k]?=w.heap[k]?
 new:∀k,k∈bs'→k∈bs∨w.heap.size≤k
 obj:∀i o,H[i]?=some o→∃o',H'[i]?=some o'∧Bi bs bs' w w' i o o'
theorem Ib.extF {F F':Nat→Prop}{bs bs':List Nat}{H H':Hz}{w w':World}(h:Ext bs H w bs' H' w')(hF:∀k,k<w.heap.size→k∉bs→¬F k→¬F' k){a:Option Addr}{vs:List Value}{cap:Nat}
 (hr:Ib F bs w a vs cap):Ib F' bs' w' a vs cap:=by
 cases a with
 |none=>exact hr
 |some a=>
  obtain⟨h1,h2,h3⟩:=hr;refine⟨h1,h2,λj u hj=>?_⟩;obtain⟨⟨hn,hnF⟩,hc⟩:=h3 j u hj;have hlt:a.block<w.heap.size:=cR w ⟨a.block,a.off+j,none⟩ hc;refine⟨⟨λhm=>?_,hF _ hlt hn hnF⟩,?_⟩;·rcases h.new _ hm with h'|h'<;>grind
  ·rw[←hc];exact World.cell?_of_block (a:=⟨a.block,a.off+j,none⟩)<|h.block _ hlt hn
theorem D1.ext {bs bs':List Nat}{H H':Hz}{w w':World}(h:Ext bs H w bs' H' w'){k id off len:Nat}{cap:Option Nat}{v:Value}
 (hr:D1 bs H w k id off len cap v):D1 bs' H' w' k id off len cap v:=by
 unfold D1 at hr⊢;cases ho:H[id]? with
 |none=>simp[ho]at hr
 |some o=>
  obtain⟨o',ho',hm⟩:=h.obj id o ho;rw[ho]at hr;rw[ho'];cases o with
  |dead=>simp only[Bi]at hm;subst hm;trivial|iter s p=>simp at hr|mp es=>simp at hr
  |cells T cs op=>
   cases op with
   |false=>
    rcases hm with rfl|⟨T',cs',rfl,hl,hb⟩;·trivial
    ·grind
   |true=>
    rcases hm with rfl|⟨T',cs',rfl,hl⟩;·trivial
    ·grind
theorem Fe.ext {bs bs':List Nat}{H H':Hz}{w w':World}(h:Ext bs H w bs' H' w'){id off:Nat}{v:Value}
 (hr:Fe bs H id off v):Fe bs' H' id off v:=by
 unfold Fe at hr⊢;cases ho:H[id]? with
 |none=>simp[ho]at hr
 |some o=>
  obtain⟨o',ho',hm⟩:=h.obj id o ho;rw[ho]at hr;rw[ho'];cases o with
  |dead=>simp only[Bi]at hm;subst hm;trivial|mp es=>simp at hr
  |iter s p=>
   rcases hm with rfl|⟨s',p',rfl,hb⟩;·trivial
   ·grind
  |cells T cs op=>
   cases op with
   |false=>
    rcases hm with rfl|⟨T',cs',rfl,hl,hb⟩;·trivial
    ·grind
   |true=>simp at hr
theorem G8.ext {bs bs':List Nat}{H H':Hz}{w w':World}(h:Ext bs H w bs' H' w'){id off len:Nat}{v:Value}
 (hr:G8 bs H id off len v):G8 bs' H' id off len v:=by
 unfold G8 at hr⊢;cases ho:H[id]? with
 |none=>simp[ho]at hr
 |some o=>
  obtain⟨o',ho',hm⟩:=h.obj id o ho;rw[ho]at hr;rw[ho'];cases o with
  |dead=>simp only[Bi]at hm;subst hm;trivial|iter s p=>simp at hr|mp es=>simp at hr
  |cells T cs op=>
   cases op with
   |false=>simp at hr
   |true=>
    rcases hm with rfl|⟨T',cs',rfl,hl⟩;·trivial
    ·grind
theorem Hg.ext {bs bs':List Nat}{H H':Hz}{w w':World}(h:Ext bs H w bs' H' w'){id:Nat}{v:Value}
 (hr:Hg bs H id v):Hg bs' H' id v:=by
 unfold Hg at hr⊢;cases ho:H[id]? with
 |none=>simp[ho]at hr
 |some o=>
  obtain⟨o',ho',hm⟩:=h.obj id o ho;rw[ho]at hr;rw[ho'];cases o with
  |dead=>simp only[Bi]at hm;subst hm;trivial|iter s p=>simp at hr|cells T cs op=>simp at hr
  |mp es=>
   rcases hm with rfl|⟨es',rfl,hb⟩;·trivial
   ·grind
mutual
theorem Rep.extF {F F' : Nat → Prop} {bs bs' : List Nat} {H H' : Hz} {w w' : World} (h : Ext bs H w bs' H' w') (hF : ∀ k, k < w.heap.size → k ∉ bs → ¬ F k → ¬ F' k) : ∀ (a : AVal) (v : Value), Rep F bs H w a v → Rep F' bs' H' w' a v
  | .bool _, _, hr | .int _ _, _, hr | .str _, _, hr | .nilSl, _, hr | .emp, _, hr | .nilPtr, _, hr | .nilFn, _, hr | .nilIf, _, hr | .nilMp, _, hr => PY
  | .agg cs, _, hr => by
    simp only [Rep] at hr ⊢
    obtain ⟨vs, hv, hl⟩ := hr
    exact ⟨vs, hv, Ab.extF h hF cs vs hl⟩
  | .tup cs, _, hr => by
    simp only [Rep] at hr ⊢
    obtain ⟨vs, hv, hl⟩ := hr
    exact ⟨vs, hv, Ab.extF h hF cs vs hl⟩
  | .row k es, _, hr => by
    simp only [Rep] at hr ⊢
    obtain ⟨a, cap, vs, hv, hl, hk, hrow⟩ := hr
    exact ⟨a, cap, vs, hv, Ab.extF h hF es vs hl, hk, hrow.extF h hF⟩
  | .hsl k id off len cap, _, hr => bY67
  | .ptr id off, _, hr => bY67
  | .mref id, _, hr => bY67
  | .optr id off len, _, hr => bY67
  | .eptr e off, _, hr => by
    simp only [Rep] at hr ⊢
    obtain ⟨b, base, u, hv, he, ⟨hb, hnF⟩, hlt, hc⟩ := hr
    refine ⟨b, base, u, hv, Rep.extF h hF e u he, ⟨fun hm => ?_, hF _ hlt hb hnF⟩, nLl hlt h.size, fun j x hx => ?_⟩
    · rcases h.new _ hm with h' | h'
      · exact hb h'
      · omega
    · rw [← hc j x hx]
      exact World.cell?_of_block (a := ⟨b, base + j, none⟩) (h.block _ hlt hb)
  | .fn f first cap, _, hr => by
    simp only [Rep] at hr ⊢
    obtain ⟨fs, cs, hv, h1, h2⟩ := hr
    exact ⟨fs, cs, hv, Ab.extF h hF first fs h1, Ab.extF h hF cap cs h2⟩
  | .iface t x, _, hr => by
    simp only [Rep] at hr ⊢
    obtain ⟨u, hv, hx⟩ := hr
    exact ⟨u, hv, Rep.extF h hF x u hx⟩
theorem Ab.extF {F F' : Nat → Prop} {bs bs' : List Nat} {H H' : Hz} {w w' : World} (h : Ext bs H w bs' H' w') (hF : ∀ k, k < w.heap.size → k ∉ bs → ¬ F k → ¬ F' k) : ∀ (az : List AVal) (vs : List Value), Ab F bs H w az vs → Ab F' bs' H' w' az vs
  | [], _, hr => bY125
  | a :: az, _, hr => by
    simp only [Ab] at hr ⊢
    obtain ⟨u, us, hv, h1, h2⟩ := hr
    exact ⟨u, us, hv, Rep.extF h hF a u h1, Ab.extF h hF az us h2⟩
end
theorem Rep.ext {bs bs':List Nat}{H H':Hz}{w w':World}(h:Ext bs H w bs' H' w')(a:AVal)(v:Value)(hr:Rep F bs H w a v):Rep F bs' H' w' a v:=Rep.extF h (λ_ _ _ h=>h) a v hr
theorem Ab.ext {bs bs':List Nat}{H H':Hz}{w w':World}(h:Ext bs H w bs' H' w')(az:List AVal)(vs:List Value)(hr:Ab F bs H w az vs):Ab F bs' H' w' az vs:=Ab.extF h (λ_ _ _ h=>h) az vs hr
theorem Bi.refl (bs:List Nat)(w:World)(i:Nat)(o:HObj):Bi bs bs w w i o o:=by cases o with|dead=>simp[Bi]|iter s p=>exact .inr ⟨s,p,rfl,rfl⟩|mp es=>exact .inr ⟨es,rfl,rfl⟩|cells T cs op=>cases op with|false=>exact .inr ⟨T,cs,rfl,rfl,rfl⟩|true=>exact .inr ⟨T,cs,rfl,.inr ⟨rfl,rfl,λ_ _=>rfl⟩⟩
theorem Ext.refl (bs:List Nat)(H:Hz)(w:World):Ext bs H w bs H w:=⟨bC _,λ_ _ _=>rfl,λ_ h=>.inl h,λi o h=>⟨o,h,Bi.refl bs w i o⟩⟩
theorem Bi.trans {bs bs' bs'':List Nat}{w w' w'':World}{i:Nat}{o o' o'':HObj}(h:Bi bs bs' w w' i o o')(k:Bi bs' bs'' w' w'' i o' o''):Bi bs bs'' w w'' i o o'':=by
 cases o with
 |dead=>simp only[Bi]at h;subst h;simp only[Bi]at k;simp[Bi,k]
 |iter s p=>
  rcases h with rfl|⟨s',p',rfl,hb⟩;·grind[Bi]
  ·grind[Bi]
 |mp es=>
  rcases h with rfl|⟨es',rfl,hb⟩;·grind[Bi]
  ·grind[Bi]
 |cells T cs op=>
  cases op with
  |false=>
   rcases h with rfl|⟨T',cs',rfl,hl,hb⟩;·grind[Bi]
   ·grind[Bi]
  |true=>
   rcases h with rfl|⟨T',cs',rfl,hl⟩;·grind[Bi]
   ·grind[Bi]
theorem Ext.trans {bs bs' bs'':List Nat}{H H' H'':Hz}{w w' w'':World}(h:Ext bs H w bs' H' w')(k:Ext bs' H' w' bs'' H'' w''):Ext bs H w bs'' H'' w'':=by
 refine⟨bI h.size k.size,λi hi hn=>?_,λi hi=>?_,λi o ho=>?_⟩;·rw[k.block i (nLl hi h.size)<|λhm=>?_,h.block i hi hn];rcases h.new i hm with h'|h'<;>grind
 ·rcases k.new i hi with h'|h';·exact h.new i h'
  ·exact .inr<|bI h.size h'
 ·obtain⟨o',ho',hm⟩:=h.obj i o ho;obtain⟨o'',ho'',hm'⟩:=k.obj i o' ho';exact⟨o'',ho'',hm.trans hm'⟩
def DJ (T:TypeId):TypeId:=cond (bB T 1000000) T<|T-1000000
theorem Jh {T:TypeId}(h:bB T 1000000=true):DJ T=T:=by grind[DJ]
def Iy (F:Nat→Prop)(bs:List Nat)(H:Hz)(w:World)(b:Nat):HObj→Prop
 |.cells T cs false=>∃(vs rest:List Value) (fr:Nat×Nat),w.heap[b]?=some (.cells (vs++rest).toArray T fr)∧Ab F bs H w cs vs∧∀j,j<N vs→¬(fr.1≤j∧j<fr.2)|.cells T cs true=>∃(vs rest:List Value) (fr:Nat×Nat),w.heap[b]?=some (.cells (vs++rest).toArray (DJ T) fr)∧Ab F bs H w cs vs∧(bB T 1000000=true→fr=(0,0))|.iter s pos=>w.heap[b]?=some (.stringIter ⟨s.toArray⟩ pos)|.mp es=>w.heap[b]?=some (.map (Jq 0 es).toArray<|N es)|.dead=>True
structure Ae (W0:World)(F:Nat→Prop)(bs:List Nat)(H:Hz)(w:World):Prop where
 len:N bs=N H
 base:Below W0.heap.size W0 w
 low:∀b,b∈bs→W0.heap.size≤b∧b<w.heap.size
 nodup:bs.Nodup
 forb:∀b,F b→W0.heap.size≤b∧b<w.heap.size∧b∉bs
 obj:∀(i:Nat) (o:HObj) (b:Nat),H[i]?=some o→bs[i]?=some b→Iy F bs H w b o
theorem Ae.ext0 {W0:World}{bs:List Nat}{H:Hz}{w:World}(h:Ae W0 F bs H w):Ext [] [] W0 bs H w:=⟨h.base.size,λk hk _=>h.base.block k hk,λk hk=>.inr (h.low k hk).1,λi o ho=>by simp at ho⟩
theorem Iy.ext {bs bs':List Nat}{H H':Hz}{w w':World}(h:Ext bs H w bs' H' w'){b:Nat}{o:HObj}(hb:w'.heap[b]?=w.heap[b]?)(ho:Iy F bs H w b o):Iy F bs' H' w' b o:=by
 cases o with
 |dead=>trivial|iter s p=>simp only[Iy]at ho⊢;rw[hb];exact ho|mp es=>simp only[Iy]at ho⊢;rw[hb];exact ho
 |cells T cs op=>
  cases op with
  |false=>obtain⟨vs,rest,fr,h1,h2,h3⟩:=ho;exact⟨vs,rest,fr,by grind,Ab.ext h cs vs h2,h3⟩
  |true=>obtain⟨vs,rest,fr,h1,h2,h3⟩:=ho;exact⟨vs,rest,fr,by grind,Ab.ext h cs vs h2,h3⟩
theorem Ext.alloc {bs:List Nat}{H:Hz}{w:World}(hl:N bs=N H)(hlow:∀b,b∈bs→b<w.heap.size)(o:Obj)(ho:HObj):
 Ext bs H w (bs++[w.heap.size]) (H++[ho]) (w.alloc o):=by
 refine⟨B4,λk hk _=>?_,λk hk=>?_,λi x hx=>⟨x,?_,?_⟩⟩;·exact aY w o k hk
 ·grind
 ·grind
 ·have hi:i<N H:=(aC.1 hx).1;have hb:(bs++[w.heap.size])[i]?=bs[i]?:=aI Y;have hz:∀b,bs[i]?=some b→Dj (w.alloc o) b=Dj w b:=λb hb=>by grind[Dj,aY]
  cases x with|dead=>simp[Bi]|iter s p=>exact .inr ⟨s,p,rfl,hb⟩|mp es=>exact .inr ⟨es,rfl,hb⟩|cells T cs op=>cases op with|false=>exact .inr ⟨T,cs,rfl,rfl,hb⟩|true=>exact .inr ⟨T,cs,rfl,.inr ⟨rfl,hb,hz⟩⟩
theorem Ae.alloc {W0:World}{bs:List Nat}{H:Hz}{w:World}(h:Ae W0 F bs H w)(o:Obj)(ho:HObj)
 (hobj:Iy F (bs++[w.heap.size]) (H++[ho]) (w.alloc o) w.heap.size ho):Ae W0 F (bs++[w.heap.size]) (H++[ho]) (w.alloc o):=by
 have he:=Ext.alloc h.len (λb hb=>(h.low b hb).2) o ho;refine⟨by simp[h.len],h.base.alloc h.base.size o,λb hb=>?_,?_,λb hb=>?_,λi x b hx hb=>?_⟩
 ·rcases List.mem_append.1 hb with h'|h';·have:=h.low b h';simp;omega
  ·simp at h';subst h';simp;exact h.base.size
 ·rw[List.nodup_append];refine⟨h.nodup,B4,λa ha b hb=>?_⟩;simp at hb;have:=(h.low a ha).2;omega
 ·obtain⟨h1,h2,h3⟩:=h.forb b hb;refine⟨h1,Jo,λhm=>?_⟩;grind
 ·by_cases hi:i<N H;·rw[aI hi]at hx;rw[aI (by rw[h.len];exact hi)]at hb;exact(h.obj i x b hx hb).ext he (aY w o b (h.low b<|mGe hb).2)
  ·have hi':i=N H:=by grind
   subst hi';simp at hx;rw[←h.len]at hb;grind
theorem Ea {l:List Nat}(h:l.Nodup){i j c:Nat}(hi:l[i]?=some c)(hj:l[j]?=some c):i=j:=by grind[bO]
theorem Ext.upd {bs:List Nat}{H:Hz}{w w':World}(hnd:bs.Nodup){i b:Nat}{o o':HObj}(ho:H[i]?=some o)(hb:bs[i]?=some b)
 (hsz:w'.heap.size=w.heap.size) (hother:∀k,k≠b→w'.heap[k]?=w.heap[k]?) (hoe:Bi bs bs w w' i o o'):Ext bs H w bs (H.set i o') w':=by
 refine⟨Y,λk _ hk=>hother k<|λe=>hk<|e▸mGe hb,λk hk=>.inl hk,λj x hx=>?_⟩;by_cases hij:j=i;·grind
 ·refine⟨x,by grind,?_⟩;have hz:∀c,bs[j]?=some c→Dj w' c=Dj w c:=λc hc=>by grind[Ea,Dj]
  cases x with|dead=>simp[Bi]|iter s p=>exact .inr ⟨s,p,rfl,rfl⟩|mp es=>exact .inr ⟨es,rfl,rfl⟩|cells T cs op=>cases op with|false=>exact .inr ⟨T,cs,rfl,rfl,rfl⟩|true=>exact .inr ⟨T,cs,rfl,.inr ⟨rfl,rfl,hz⟩⟩
theorem Ae.upd {W0:World}{bs:List Nat}{H:Hz}{w w':World}(h:Ae W0 F bs H w){i b:Nat}{o o':HObj}(ho:H[i]?=some o)(hb:bs[i]?=some b)
 (hw:Below W0.heap.size w w')
 (hsz:w'.heap.size=w.heap.size) (hother:∀k,k≠b→w'.heap[k]?=w.heap[k]?) (hoe:Bi bs bs w w' i o o')
 (hok:Iy F bs (H.set i o') w' b o'):Ae W0 F bs (H.set i o') w':=by
 have he:=Ext.upd h.nodup ho hb hsz hother hoe;refine⟨by simp[h.len],h.base.trans hw,λc hc=>by have:=h.low c hc;omega,h.nodup,λc hc=>by have:=h.forb c hc;grind,λj x c hx hc=>?_⟩;by_cases hij:j=i;·grind
 ·rw[bY<|Ne.symm hij]at hx;have hcb:c≠b:=λe=>by subst e;exact hij (Ea h.nodup hc hb)
  exact(h.obj j x c hx hc).ext he<|hother c hcb
theorem Ab.length {bs:List Nat}{H:Hz}{w:World}:∀{az:List AVal}{vs:List Value},Ab F bs H w az vs→N vs=N az
 | [],_,h=>by simp only[Ab]at h;subst h;rfl|_::az,_,h=>by simp only[Ab]at h;obtain⟨u,us,rfl,_,h2⟩:=h;simp[Ab.length h2]
theorem Ab.append {bs:List Nat}{H:Hz}{w:World}:∀{az:List AVal}{vs:List Value}{az':List AVal}{vs':List Value},Ab F bs H w az vs→Ab F bs H w az' vs'→Ab F bs H w (az++az') (vs++vs')
 | [],_,_,_,h,h'=>by simp only[Ab]at h;subst h;simpa using h'|_::az,_,_,_,h,h'=>by simp only[Ab]at h;obtain⟨u,us,rfl,h1,h2⟩:=h;simp only[List.cons_append,Ab];exact⟨u,_,Z,h1,Ab.append h2 h'⟩
theorem Ab.drop {bs:List Nat}{H:Hz}{w:World}:∀{az:List AVal}{vs:List Value} (n:Nat),Ab F bs H w az vs→Ab F bs H w (az.drop n) (vs.drop n)
 |_,_,0,h=>bY75| [],_,n+1,h=>by simp only[Ab]at h;subst h;simp[Ab]|_::az,_,n+1,h=>by simp only[Ab]at h;obtain⟨u,us,rfl,h1,h2⟩:=h;simpa using Ab.drop n h2
theorem Ab.take {bs:List Nat}{H:Hz}{w:World}:∀{az:List AVal}{vs:List Value} (n:Nat),Ab F bs H w az vs→Ab F bs H w (az.take n) (vs.take n)
 |_,_,0,h=>Z4| [],_,n+1,h=>by simp only[Ab]at h;subst h;simp[Ab]|_::az,_,n+1,h=>by simp only[Ab]at h;obtain⟨u,us,rfl,h1,h2⟩:=h;simp only[List.take_succ_cons,Ab];exact⟨u,_,Z,h1,Ab.take n h2⟩
theorem Ab.get {bs:List Nat}{H:Hz}{w:World}:∀{az:List AVal}{vs:List Value}{i:Nat}{x:AVal},Ab F bs H w az vs→az[i]?=some x→∃u,vs[i]?=some u∧Rep F bs H w x u
 | [],_,_,_,_,hx=>by simp at hx|a::az,_,i,x,h,hx=>by simp only[Ab]at h;obtain⟨u,us,rfl,h1,h2⟩:=h;cases i with|zero=>simp at hx;subst hx;exact⟨u,rfl,h1⟩|succ i=>exact Ab.get (i:=i) h2 (by simpa using hx)
def AVal.one :AVal→Bool
 |.agg _|.tup _=>false|_=>true
theorem Rep.one {bs:List Nat}{H:Hz}{w:World}{a:AVal}{v:Value}(h:Rep F bs H w a v)(h1:a.one=true):v.oneCell'=true:=by
 cases a<;>simp only[Rep,AVal.one,bFt]at h h1<;>first
  |(exact h1.elim)|(subst h;rfl)|(obtain⟨⟨a,c,_,rfl⟩,_⟩:=h;rfl)
  |(obtain⟨⟨a,rfl⟩,_⟩:=h;rfl)
  |(obtain⟨_,_,_,rfl,_⟩:=h;rfl)
  |(obtain⟨_,_,rfl,_⟩:=h;rfl)
  |(obtain⟨_,rfl,_⟩:=h;rfl)
theorem Ab.one {bs:List Nat}{H:Hz}{w:World}:∀{az:List AVal}{vs:List Value},Ab F bs H w az vs→az.all AVal.one=true→∀v∈vs,v.oneCell'=true
 | [],_,h,_=>by simp only[Ab]at h;subst h;simp
 |a::az,_,h,h1=>by
  simp only[Ab]at h;obtain⟨u,us,rfl,h2,h3⟩:=h;simp only[List.all_cons,bAt]at h1;intro v hv;rcases List.mem_cons.1 hv with rfl|hv;·exact h2.one h1.1
  ·exact Ab.one h3 h1.2 v hv
theorem Rep.cells {bs:List Nat}{H:Hz}{w:World}{a:AVal}{v:Value}(h:Rep F bs H w a v):Ab F bs H w a.cells v.cells.toList:=by
 have key:∀(b:AVal),b.one=true→Rep F bs H w b v→Ab F bs H w [b] v.cells.toList:=λb h1 hb=>by
  have:=hb.one h1;have hc:v.cells.toList=[v]:=by cases v<;>simp_all[Value.cells,Value.oneCell']
  grind[Ab]
 cases a<;>grind[Rep,AVal.cells,Value.cells,Ab]
inductive AOpd where
 |tmp (t:Nat)|val (a:AVal)|glob (g:Nat)
def lk (t:Nat):List (Nat×AVal)→Option AVal
 | []=>none|(u,v)::r=>cond (aA t u) (some v)<|lk t r
inductive Env where
 |leaf|node (v:Option AVal) (l r:Env)|al (l:List<|Nat×AVal)
def Env.get :Env→Nat→Option AVal
 |.leaf,_=>none|.al l,t=>lk t l|.node v l r,t=>cond (aA t 0) v<|cond (aA (bN t 2) 1) (l.get<|bJ t 2)<|r.get<|cZ<|bJ t 2
def Env.put :Nat→Nat→AVal→Env→Env
 |0,_,_,e=>e|_+1,t,v,.al l=>.al ((t,v)::l)|k+1,t,v,.leaf=>cond (aA t 0) (.node (some v) .leaf .leaf) (cond (aA (bN t 2) 1) (.node none (Env.put k (bJ t 2) v .leaf) .leaf)<|.node none .leaf<|Env.put k (cZ<|bJ t 2) v .leaf)|k+1,t,v,.node w l r=>cond (aA t 0) (.node (some v) l r)<|cond (aA (bN t 2) 1) (.node w (Env.put k (bJ t 2) v l) r)<|.node w l<|Env.put k (cZ<|bJ t 2) v r
theorem Env.get_node (x:Option AVal)(l r:Env)(u:Nat):(Env.node x l r).get u=cond (aA u 0) x (cond (aA (bN u 2) 1) (l.get<|bJ u 2)<|r.get<|cZ<|bJ u 2):=rfl
theorem Env.get_put :∀(k t:Nat) (v:AVal) (e:Env) (u:Nat),t+2≤2^k→(Env.put k t v e).get u=if u=t then some v else e.get u
 |0,t,_,_,_,h=>Tf
 |k+1,t,v,e,u,hk=>by
  have step:∀(x:Option AVal) (l r:Env),(cond (aA t 0) (Env.node (some v) l r)<|cond (aA (bN t 2) 1) (Env.node x (Env.put k (bJ t 2) v l) r)<|Env.node x l<|Env.put k (cZ<|bJ t 2) v r).get u=
   if u=t then some v else(Env.node x l r).get u:=by
   intro x l r;have hmod:bN u 2=u%2:=rfl;have hdiv:bJ u 2=u/2:=rfl;have hmodt:bN t 2=t%2:=rfl;have hdivt:bJ t 2=t/2:=rfl;have hp:2^(k+1)=2*2^k:=Y;cases ht:aA t 0 with
   |true=>have ht0:=nBq ht;rw[cond_true,Env.get_node,Env.get_node];cases hu:aA u 0 with|true=>rw[cond_true,if_pos (by simp_all)]|false=>rw[cond_false,cond_false,if_neg (by grind)]
   |false=>
    have ht0:=aL ht;rw[cond_false];cases htm:aA (bN t 2) 1 with
    |true=>
     have htm':=nBq htm;rw[cond_true,Env.get_node,Env.get_node];cases hu:aA u 0 with
     |true=>rw[cond_true,cond_true,if_neg (by grind)]
     |false=>
      rw[cond_false,cond_false];cases hum:aA (bN u 2) 1 with
      |false=>rw[cond_false,cond_false,if_neg (by grind)]
      |true=>
       have hum':=nBq hum;rw[cond_true,cond_true,Env.get_put k _ v l _ Y];by_cases he:u=t;·grind
       ·grind
    |false=>
     have htm':=aL htm;rw[cond_false,Env.get_node,Env.get_node];cases hu:aA u 0 with
     |true=>rw[cond_true,cond_true,if_neg (by grind)]
     |false=>
      have hu0:=aL hu;rw[cond_false,cond_false];cases hum:aA (bN u 2) 1 with
      |true=>rw[cond_true,cond_true,if_neg (by grind)]
      |false=>
       have hum':=aL hum;rw[cond_false,cond_false,Env.get_put k _ v r _ (by grind[dG])];by_cases he:u=t;·grind
       ·rw[if_neg he,if_neg (by grind[dG])]
  cases e with
  |leaf=>
   have h1:=step none .leaf .leaf;have hn:(Env.node none .leaf .leaf).get u=Env.leaf.get u:=by rw[Env.get_node];cases aA u 0<;>cases aA (bN u 2) 1<;>rfl
   rw[hn]at h1;exact h1
  |node x l r=>exact step x l r|al l=>show lk u ((t,v)::l)=if u=t then some v else lk u l;simp only[lk];cases hu:aA u t with|true=>rw[if_pos<|nBq hu];rfl|false=>rw[if_neg<|aL hu];rfl
structure St where
 env:Env
 H:Hz
 n:Nat
def ev (G:List<|Nat×AVal)(s:St):AOpd→Option AVal
 |.tmp t=>s.env.get t|.val a=>some a|.glob g=>(lk g G).map λe=>.eptr e 0
def evs (G:List<|Nat×AVal)(s:St):List AOpd→Option (List AVal)
 | []=>some []
 |x::xs=>
  match ev G s x with
  |some v=>match evs G s xs with
   |some vs=>some (v::vs)|none=>none
  |none=>none
def Eg :Nat→Value→Option AVal
 |0,_=>none|n+1,v=>match v with|.bool b=>some (.bool b)|.int k m=>some (.int k m)|.string s=>some (.str s.data.toList)|.pointer none=>some .nilPtr|.slice none 0 0=>some .nilSl|.nilFunc=>some .nilFn|.map none=>some .nilMp|.nilIface=>some .nilIf|.agg cs=>(cs.toList.mapM<|Eg n).map .agg|_=>none
def An :Operand→Option AOpd
 |.tmp t=>some (.tmp t)|.const v=>(Eg 3 v).map .val|.global g=>some (.glob g)|.func f=>some<|.val<|.fn f [] []
def Kr :List Operand→Option (List AOpd)
 | []=>some []
 |x::xs=>
  match An x with
  |some y=>match Kr xs with
   |some ys=>some (y::ys)|none=>none
  |none=>none
def GOK (W0:World)(G:List<|Nat×AVal):Prop:=∀g e,lk g G=some e→Rep (λ_=>False) [] [] W0 (.eptr e 0) (.pointer<|some ⟨g,0,none⟩)
structure RS (W0:World)(F:Nat→Prop)(bs:List Nat)(s:St)(a:Act)(w:World):Prop where
 heap:Ae W0 F bs s.H w
 size:a.tmps.size=s.n
 env:∀t v,s.env.get t=some v→Rep F bs s.H w v (a.tmps.getD t undef)
theorem K5 {bs:List Nat}{H:Hz}{w:World}{f:Value→Option AVal}:∀{l:List Value}{az:List AVal},(∀v∈l,∀a,f v=some a→Rep F bs H w a v)→l.mapM f=some az→Ab F bs H w az l
 | [],az,_,h=>by grind[Ab]|v::l,az,hf,h=>by simp only[List.mapM_cons,oBb,Option.pure_def,oBi]at h;obtain⟨a,ha,bs',hb,he⟩:=h;injection he with he;subst he;simp only[Ab];exact⟨v,l,Z,hf v B4 a ha,K5 (λu hu=>hf u (by simp[hu])) hb⟩
theorem Rep.const {bs:List Nat}{H:Hz}{w:World}:∀(n:Nat) (v:Value) (a:AVal),Eg n v=some a→Rep F bs H w a v
 |0,_,_,h=>by simp[Eg]at h
 |n+1,v,a,h=>by
  cases v with
  |bool b=>simp[Eg]at h;subst h;simp[Rep]|int k m=>simp[Eg]at h;subst h;simp[Rep]|string s=>simp[Eg]at h;subst h;simp[Rep]|pointer p=>cases p<;>simp[Eg]at h;subst h;simp[Rep]
  |map p=>cases p<;>simp[Eg]at h;subst h;simp[Rep]
  |slice p l c=>cases p with|some _=>simp[Eg]at h|none=>cases l with|succ _=>simp[Eg]at h|zero=>cases c with|succ _=>simp[Eg]at h|zero=>simp[Eg]at h;subst h;simp[Rep]
  |nilFunc=>simp[Eg]at h;subst h;simp[Rep]|nilIface=>simp[Eg]at h;subst h;simp[Rep]|agg cs=>simp only[Eg,bT]at h;obtain⟨az,h1,rfl⟩:=h;simp only[Rep];exact⟨cs.toList,B4,K5 (λu _ b hb=>Rep.const n u b hb) h1⟩
  |_=>simp[Eg]at h
theorem Bd {W0:World}{G:List (Nat×AVal)}{bs:List Nat}{s:St}{a:Act}{w:World}(hg:GOK W0 G)(hs:RS W0 F bs s a w){x:Operand}{y:AOpd}(hc:An x=some y){v:AVal}(hv:ev G s y=some v):
 Rep F bs s.H w v (a.eval x):=by
 cases x with
 |tmp t=>simp[An]at hc;subst hc;exact hs.env t v hv|const c=>simp only[An,bT]at hc;obtain⟨b,hb,rfl⟩:=hc;simp[ev]at hv;subst hv;exact Rep.const _ _ _ hb
 |global g=>simp[An]at hc;subst hc;simp only[ev,bT]at hv;obtain⟨e,he,rfl⟩:=hv;exact Rep.extF hs.heap.ext0 (λk hk _ _ hf=>by have:=(hs.heap.forb k hf).1;omega) _ _<|hg g e he
 |func f=>simp[An]at hc;subst hc;simp[ev]at hv;subst hv;simp only[Rep,Act.eval];exact⟨[],[],Z,Z4,Z4⟩
theorem CI {W0:World}{G:List (Nat×AVal)}{bs:List Nat}{s:St}{a:Act}{w:World}(hg:GOK W0 G)(hs:RS W0 F bs s a w):∀{xs:List Operand}{ys:List AOpd} (_:Kr xs=some ys) {vs:List AVal} (_:evs G s ys=some vs),
 Ab F bs s.H w vs (xs.map a.eval)
 | [],ys,hc,vs,hv=>by grind[Kr,evs,Ab]
 |x::xs,ys,hc,vs,hv=>by
  simp only[Kr]at hc;split at hc
  ·rename_i y hy;split at hc
   ·rename_i ys' hys;injection hc with hc;subst hc;simp only[evs]at hv;split at hv
    ·rename_i v hv1;split at hv;·rename_i vs' hvs;injection hv with hv;subst hv;simp only[List.map_cons,Ab];exact⟨_,_,Z,Bd hg hs hy hv1,CI hg hs hys hvs⟩
     ·cases hv
    ·cases hv
   ·cases hc
  ·cases hc
def Ah :List (Int×Int)→Prop
 | []=>True|p::r=>p.1≤p.2∧Ah r
inductive ARes where
 |val (v:AVal) (H:Hz) (side:List<|Int×Int)|skip (H:Hz)|call (f:FuncId) (args:List AVal)
def E1 (P:Program)(f:FuncId):Prop:=∃fn c,P.funcs[f]?=some fn∧fn.body=some c∧fn.name≠ "runtime.NumGoroutine"
def E6 (P:Program)(W0:World)(F:Nat→Prop)(bs:List Nat)(H:Hz)(w:World)(r:Result Next):ARes→Prop
 |.val v H' side=>Ah side→∃cv w' bs',r= .ok (.value cv) w'∧Rep F bs' H' w' v cv∧Ae W0 F bs' H' w'∧Ext bs H w bs' H' w'|.skip H'=>∃w' bs',r= .ok .skip w'∧Ae W0 F bs' H' w'∧Ext bs H w bs' H' w'|.call f args=>E1 P f→∃cargs:List Value,r= .ok (.enter f cargs.toArray) w∧Ab F bs H w args cargs
theorem E6.same {P:Program}{W0:World}{bs:List Nat}{H:Hz}{w:World}{r:Result Next}{v:AVal}{cv:Value}(hh:Ae W0 F bs H w)(hr:r= .ok (.value cv) w)(hv:Rep F bs H w v cv):E6 P W0 F bs H w r (.val v H []):=λ_=>⟨cv,w,bs,hr,hv,hh,Ext.refl _ _ _⟩
def Po (P:Program)(t:TypeId):Option (Nat×Bool):=
 match P.info? t with
 |none=>none
 |some i=>match P.underlying t with
  |some (.struct _)=>some (i.size,true)|some (.array _ _)=>some (i.size,true)|some _=>some (i.size,false)|none=>none
section
variable {P : Program} (w : World)
theorem A9 {t:TypeId}{d:TypeDesc}(h:P.underlying t=some d):(underlying t).run P w= .ok d w:=by simp[underlying,h]
theorem Et {t:TypeId}{i:TypeInfo}(h:P.info? t=some i):(typeInfo t).run P w= .ok i w:=by simp[typeInfo,h]
theorem Si {t:TypeId}{n:Nat}{agg:Bool}(h:Po P t=some (n,agg)):(isAgg t).run P w= .ok agg w∧(sizeOf t).run P w= .ok n w:=by
 unfold Po at h;cases hi:P.info? t with
 |none=>simp[hi]at h
 |some i=>
  rw[hi]at h;simp only at h;have hs:(sizeOf t).run P w= .ok i.size w:=PS;cases hd:P.underlying t with
  |none=>simp[hd]at h
  |some d=>
   have ha:(isAgg t).run P w= .ok (match d with|.struct _|.array _ _=>true|_=>false) w:=by simp only[isAgg,sRb,A9 w hd,rAo];cases d<;>rfl
   rw[hd]at h;cases d<;>simp at h<;>obtain⟨rfl,rfl⟩:=h<;>exact⟨ha,hs⟩
end
def C3 (n:Nat)(agg:Bool)(cs:List AVal)(off:Nat):Option AVal:=
 match agg with
 |true=>cond (aA (N<|(cs.drop off).take n) n) (some<|.agg<|(cs.drop off).take n) none
 |false=>cond (aA n 1) (match cs.drop off with
  |c::_=>cond c.one (some c) none| []=>none) none
def Jf (n:Nat)(agg:Bool)(H:Hz):AVal→Option AVal
 |.eptr e off=>C3 n agg e.cells off
 |.ptr id off=>match H[id]? with
  |some (.cells _ cs false)=>C3 n agg cs off|_=>none
 |.optr id off len=>match H[id]? with
  |some (.cells _ cs true)=>cond (aA (N cs) len) (C3 n agg cs off) none|_=>none
 |_=>none
theorem Jy {P:Program}(w:World){bs:List Nat}{H:Hz}{t:TypeId}{n:Nat}{agg:Bool}(ht:Po P t=some (n,agg)){cs:List AVal}{us:List Value}{b base off:Nat}
 (hl:Ab F bs H w cs us) (hc:∀j x,us[j]?=some x→w.cell? ⟨b,base+j,none⟩=some x) {v:AVal} (hv:C3 n agg cs off=some v):
 ∃cv,(cH t<|.pointer<|some ⟨b,base+off,none⟩).run P w= .ok cv w∧Rep F bs H w v cv:=by
 obtain⟨ha,hs⟩:=Si w ht;cases agg with
 |true=>
  simp only[C3]at hv;cases hlen:aA (N<|(cs.drop off).take n) n with
  |false=>rw[hlen]at hv;cases hv
  |true=>
   simp only[hlen,cond_true,iS]at hv;subst hv;have hrl:Ab F bs H w ((cs.drop off).take n) ((us.drop off).take n):=(hl.drop off).take n;have hun:N ((us.drop off).take n)=n:=by rw[hrl.length];simp_all
   have hld:=run_loadCells_list (P:=P) w ⟨b,base+off,none⟩ ((us.drop off).take n) (λj x hx=>by grind[dT]);rw[hun]at hld;refine⟨.agg ((us.drop off).take n).toArray,?_,?_⟩;·simp_all[cH,aX,loadVar]
   ·grind[Rep]
 |false=>
  simp only[C3]at hv;cases hn:aA n 1 with
  |false=>simp[hn]at hv
  |true=>
   simp only[hn,cond_true]at hv;cases hd:cs.drop off with
   |nil=>simp[hd]at hv
   |cons c rest=>
    simp only[hd]at hv;cases h1:c.one with
    |false=>simp[h1]at hv
    |true=>
     simp only[h1,cond_true,iS]at hv;subst hv;have hget:cs[off]?=some c:=by have:=congrArg (λl=>l[0]?) hd;grind
     obtain⟨u,hu,hr⟩:=hl.get hget;refine⟨u,?_,hr⟩;simp[cH,aX,loadVar,ha,hc off u hu]
theorem GI {P:Program}{W0 w:World}{bs:List Nat}{H:Hz}(hh:Ae W0 F bs H w){t:TypeId}{n:Nat}{agg:Bool}(ht:Po P t=some (n,agg)){p v:AVal}{cp:Value}(hp:Rep F bs H w p cp)(hv:Jf n agg H p=some v):
 ∃cv,(cH t cp).run P w= .ok cv w∧Rep F bs H w v cv:=by
 cases p<;>simp only[Jf]at hv<;>try (cases hv;done)
 case eptr e off=>simp only[Rep]at hp;obtain⟨b,base,u,rfl,he,_,_,hc⟩:=hp;exact Jy w ht he.cells hc hv
 case ptr id off=>
  simp only[Rep]at hp;obtain⟨_,hp⟩:=hp;unfold Fe at hp;split at hv;·rename_i T cs ho;rw[ho]at hp;obtain⟨b,hb,rfl⟩:=hp;obtain⟨vs,rest,fr,hcell,hl,_⟩:=hh.obj id _ b ho hb;have:=Jy (P:=P) (b:=b) (base:=0) w ht hl (λj x hx=>by rw[bS,cell_of_row w b j _ T fr hcell,bW,aI (aC.1 hx).1];exact hx) hv;grind
  ·cases hv
 case optr id off len=>
  simp only[Rep]at hp;obtain⟨_,hp⟩:=hp;unfold G8 at hp;split at hv
  ·rename_i T cs ho;rw[ho]at hp;cases hlen:aA (N cs) len with
   |false=>rw[hlen]at hv;cases hv
   |true=>rw[hlen,cond_true]at hv;obtain⟨b,hb,rfl⟩:=hp.2<|nBq hlen;obtain⟨vs,rest,fr,hcell,hl,_⟩:=hh.obj id _ b ho hb;have:=Jy (P:=P) (b:=b) (base:=0) w ht hl (λj x hx=>by rw[bS,cell_of_row w b j _ _ fr hcell,bW,aI (aC.1 hx).1];exact hx) hv;simpa using this
  ·cases hv
theorem Gf {P:Program}(g o:Nat)(t:TypeId)(fr:Nat×Nat):∀(vs:List Value) (i:Nat) (cur:Array Value) (w:World),w.heap[g]?=some (.cells cur t fr)→∀n,(∀j,j<n→¬(fr.1≤j∧j<fr.2))→o+i+N vs≤n→n≤cur.size→(∀v∈vs,v.oneCell'=true)→
 (storeCells ⟨g,o,none⟩ vs i).run P w= .ok () (w.setRow g (cur.toList.take (o+i)++vs++cur.toList.drop (o+i+N vs)).toArray)
 | [],i,cur,w,hg,_,_,_,_,_=>by simp only[storeCells,List.append_nil,lNi,aZ,bX,aW];rw[setRow_self w g cur t fr hg];rfl
 |v::rest,i,cur,w,hg,n,hf,hl',hn,h1=>by
  have hl:o+i+N (v::rest)≤cur.size:=bI hl' hn;have hi:o+i<cur.size:=by grind
  have hadd:(⟨g,o,none⟩:Addr).add i=⟨g,o+i,none⟩:=by grind[dT]
  have hcell:w.cell? ⟨g,o+i,none⟩=some cur[o+i]:=by simp[World.cell?,hg,hi]
  have hfro:w.frozen? ⟨g,o+i,none⟩=false:=by obtain⟨lo,hi'⟩:=fr;have:=hf (o+i) (by grind);grind[World.frozen?]
  have hst:(store ((⟨g,o,none⟩:Addr).add i) v).run P w= .ok () (w.setRow g<|cur.setIfInBounds (o+i) v):=by grind[run_store,setCell_eq_setRow]
  have ih:=Gf (P:=P) g o t fr rest (i+1) (cur.setIfInBounds (o+i) v) (w.setRow g<|cur.setIfInBounds (o+i) v) (setRow_heap w g cur _ t _ hg) n hf (by grind) (by grind)<|λx hx=>h1 x (by simp[hx]);simp only[storeCells,sRb,hst,rAo,ih,setRow_setRow];congr 3;have e:=list_seg_step cur.toList (o+i) v rest Y;grind
def spl (cs:List AVal)(off:Nat)(xs:List AVal):List AVal:=cs.take off++(xs++cs.drop (off+N xs))
def Nc (n:Nat)(H:Hz)(p x:AVal):Option Hz:=
 match p with
 |.ptr id off=>match H[id]? with
  |some (.cells T cs false)=>cond (aA (N x.cells) n&&bK (off+n) (N cs)&&x.cells.all AVal.one) (some<|H.set id<|.cells T (spl cs off x.cells) false) none|_=>none
 |.optr id off len=>match H[id]? with
  |some (.cells T cs true)=>cond (bB T 1000000&&aA (N cs) len&&(aA (N x.cells) n&&bK (off+n) (N cs)&&x.cells.all AVal.one)) (some<|H.set id<|.cells T (spl cs off x.cells) true) none|_=>none
 |_=>none
theorem Gq {B:Nat}(w:World){b:Nat}(cs:Array Value)(h:B≤b):Below B w (w.setRow b cs):=⟨rfl,rfl,rfl,by simp_all,λk hk=>setRow_other w b k cs Y⟩
theorem MO {P:Program}{W0 w:World}{bs:List Nat}{H H':Hz}(hh:Ae W0 F bs H w){t:TypeId}{n:Nat}{agg:Bool}(ht:Po P t=some (n,agg)){p x:AVal}{cp cx:Value}(hp:Rep F bs H w p cp)(hx:Rep F bs H w x cx)(hv:Nc n H p x=some H'):
 ∃w',(dE t cp cx).run P w= .ok () w'∧Ae W0 F bs H' w'∧Ext bs H w bs H' w':=by
 obtain⟨_,hs⟩:=Si w ht;cases p<;>simp only[Nc]at hv<;>try (cases hv;done)
 case ptr id off=>
  simp only[Rep]at hp;obtain⟨_,hp⟩:=hp;unfold Fe at hp;split at hv
  ·rename_i T cs ho;rw[ho]at hp;obtain⟨b,hb,rfl⟩:=hp;obtain⟨vs,rest,fr,hcell,hl,hfr⟩:=hh.obj id _ b ho hb;cases hcnd:(aA (N x.cells) n&&bK (off+n) (N cs)&&x.cells.all AVal.one)with
   |false=>simp[hcnd]at hv
   |true=>
    simp only[hcnd,cond_true,iS]at hv;subst hv;simp only[bAt]at hcnd;obtain⟨⟨h1,h2⟩,h3⟩:=hcnd;have h1:=nBq h1;have h2:=aO h2;have hxc:=hx.cells;have hxl:N cx.cells.toList=n:=by rw[hxc.length];exact h1
    have hvl:=hl.length;have hst:=Gf (P:=P) b off T fr cx.cells.toList 0 (vs++rest).toArray w hcell (N vs) hfr Y B4<|hxc.one h3;simp only[aZ]at hst;have hsp:(vs++rest).toArray.toList.take off++cx.cells.toList++(vs++rest).toArray.toList.drop (off+N cx.cells.toList)=(vs.take off++cx.cells.toList++vs.drop (off+N cx.cells.toList))++rest:=by grind
    rw[hsp]at hst;have hrow:Ab F bs H w (spl cs off x.cells) (vs.take off++cx.cells.toList++vs.drop (off+N cx.cells.toList)):=by rw[spl,cE,hxl,←h1];exact(hl.take off).append<|hxc.append<|hl.drop _
    have hlen:N (spl cs off x.cells)=N cs:=by simp[spl];omega
    have hoe:Bi bs bs w (w.setRow b ((vs.take off++cx.cells.toList++vs.drop (off+N cx.cells.toList))++rest).toArray) id (.cells T cs false) (.cells T (spl cs off x.cells) false):=.inr ⟨T,_,Z,hlen,Z⟩;have hlow:=hh.low b<|mGe hb;have hext:=Ext.upd (w':=w.setRow b ((vs.take off++cx.cells.toList++vs.drop (off+N cx.cells.toList))++rest).toArray) hh.nodup ho hb B4 (λk hk=>setRow_other w b k _ hk) hoe;refine⟨_,?_,Ae.upd hh ho hb (Gq w _ hlow.1) B4 (λk hk=>setRow_other w b k _ hk) hoe ?_,hext⟩;·simp_all[dE,aX,storeVar]
    ·refine⟨_,rest,fr,setRow_heap w b _ _ T fr hcell,Ab.ext hext _ _ hrow,λj hj=>hfr j ?_⟩;grind
  ·cases hv
 case optr id off len=>
  simp only[Rep]at hp;obtain⟨_,hp⟩:=hp;unfold G8 at hp;split at hv
  ·rename_i T cs ho;rw[ho]at hp;cases hcnd:(bB T 1000000&&aA (N cs) len&&(aA (N x.cells) n&&bK (off+n) (N cs)&&x.cells.all AVal.one))with
   |false=>simp[hcnd]at hv
   |true=>
    simp only[hcnd,cond_true,iS]at hv;subst hv;simp only[bAt]at hcnd;obtain⟨⟨hT,h0⟩,⟨h1,h2⟩,h3⟩:=hcnd;obtain⟨b,hb,rfl⟩:=hp.2<|nBq h0;obtain⟨vs,rest,fr,hcell,hl,hfr⟩:=hh.obj id _ b ho hb;obtain rfl:=hfr hT;rw[Jh hT]at hcell;have h1:=nBq h1;have h2:=aO h2;have hxc:=hx.cells;have hxl:N cx.cells.toList=n:=by rw[hxc.length];exact h1
    have hvl:=hl.length;have hst:=Gf (P:=P) b off T (0,0) cx.cells.toList 0 (vs++rest).toArray w hcell (N vs) (λj _ h=>by omega) Y B4<|hxc.one h3;simp only[aZ]at hst;have hsp:(vs++rest).toArray.toList.take off++cx.cells.toList++(vs++rest).toArray.toList.drop (off+N cx.cells.toList)=(vs.take off++cx.cells.toList++vs.drop (off+N cx.cells.toList))++rest:=by grind
    rw[hsp]at hst;have hrow:Ab F bs H w (spl cs off x.cells) (vs.take off++cx.cells.toList++vs.drop (off+N cx.cells.toList)):=by rw[spl,cE,hxl,←h1];exact(hl.take off).append<|hxc.append<|hl.drop _
    have hlen:N (spl cs off x.cells)=N cs:=by simp[spl];omega
    have hnew:=setRow_heap w b _ ((vs.take off++cx.cells.toList++vs.drop (off+N cx.cells.toList))++rest).toArray T (0,0) hcell;have hbz:Dj (w.setRow b ((vs.take off++cx.cells.toList++vs.drop (off+N cx.cells.toList))++rest).toArray) b=Dj w b:=by grind[Dj]
    have hoe:Bi bs bs w (w.setRow b ((vs.take off++cx.cells.toList++vs.drop (off+N cx.cells.toList))++rest).toArray) id (.cells T cs true) (.cells T (spl cs off x.cells) true):=.inr ⟨T,_,rfl,.inr ⟨hlen,rfl,λb' hb'=>by grind⟩⟩;have hlow:=hh.low b<|mGe hb;have hext:=Ext.upd (w':=w.setRow b ((vs.take off++cx.cells.toList++vs.drop (off+N cx.cells.toList))++rest).toArray) hh.nodup ho hb B4 (λk hk=>setRow_other w b k _ hk) hoe;refine⟨_,?_,Ae.upd hh ho hb (Gq w _ hlow.1) B4 (λk hk=>setRow_other w b k _ hk) hoe ?_,hext⟩;·simp_all[dE,aX,storeVar]
    ·exact⟨_,rest,(0,0),by grind[Jh],Ab.ext hext _ _ hrow,λ_=>rfl⟩
  ·cases hv
def Ez (P:Program)(t:TypeId):Option (List AVal):=
 match P.info? t with
 |some i=>match i.zero with
  |some z=>z.cells.toList.mapM (Eg 3)|none=>none
 |none=>none
theorem GK {P:Program}{w:World}{bs:List Nat}{H:Hz}{t:TypeId}{zs:List AVal}(h:Ez P t=some zs):
 ∃z:Value,(zeroValue t).run P w= .ok z w∧Ab F bs H w zs z.cells.toList:=by
 unfold Ez at h;split at h
 ·rename_i i hi;split at h;·rename_i z hz;exact⟨z,by simp[zeroValue,Et w hi,hz],K5 (λv _ a ha=>Rep.const 3 v a ha) h⟩
  ·cases h
 ·cases h
theorem Py {W0 w:World}{bs:List Nat}{H:Hz}(hh:Ae W0 F bs H w)(T:TypeId){cs:List AVal}{us:List Value}(hl:Ab F bs H w cs us):
 Rep F (bs++[w.heap.size]) (H++[.cells T cs false]) (w.alloc<|.cells us.toArray T) (.ptr (N H) 0) (.pointer<|some ⟨w.heap.size,0,none⟩)∧
 Ae W0 F (bs++[w.heap.size]) (H++[.cells T cs false]) (w.alloc<|.cells us.toArray T)∧
 Ext bs H w (bs++[w.heap.size]) (H++[.cells T cs false]) (w.alloc<|.cells us.toArray T):=by
 have he:=Ext.alloc hh.len (λb hb=>(hh.low b hb).2) (.cells us.toArray T)<|.cells T cs false;refine⟨?_,hh.alloc _ _ ⟨us,[],(0,0),by rw[List.append_nil];exact heap_alloc_new w _,Ab.ext he _ _ hl,λj _=>by simp⟩,he⟩;simp only[Rep,Fe,aD];exact⟨⟨_,Z⟩,w.heap.size,IX,Z⟩
theorem RN {P:Program}{W0 w:World}{bs:List Nat}{H:Hz}(hh:Ae W0 F bs H w){T:TypeId}{zs:List AVal}(hz:Ez P T=some zs):
 ∃cv w' bs',(Instr.alloc T true<|.tuple #[]).run P w= .ok cv w'∧Rep F bs' (H++[.cells T zs false]) w' (.ptr (N H) 0) cv∧Ae W0 F bs' (H++[.cells T zs false]) w'∧Ext bs H w bs' (H++[.cells T zs false]) w':=by
 obtain⟨z,hr,hl⟩:=GK (w:=w) (bs:=bs) (H:=H) hz;obtain⟨h1,h2,h3⟩:=Py hh T hl;rw[aW]at h1 h2 h3;exact⟨.pointer<|some ⟨w.heap.size,0,none⟩,w.alloc<|.cells z.cells T,_,by simp[Instr.alloc,hr,newVar,newRow],h1,h2,h3⟩
theorem box_ok {P:Program}{W0 w:World}{bs:List Nat}{H:Hz}(hh:Ae W0 F bs H w)(T:TypeId){x:AVal}{cx:Value}(hx:Rep F bs H w x cx):
 ∃cv w' bs',(Instr.box T cx).run P w= .ok cv w'∧Rep F bs' (H++[.cells T x.cells false]) w' (.ptr (N H) 0) cv∧Ae W0 F bs' (H++[.cells T x.cells false]) w'∧Ext bs H w bs' (H++[.cells T x.cells false]) w':=by
 obtain⟨h1,h2,h3⟩:=Py hh T hx.cells;rw[aW]at h1 h2 h3;exact⟨.pointer<|some ⟨w.heap.size,0,none⟩,w.alloc<|.cells cx.cells T,_,by simp[Instr.box,newVar,newRow],h1,h2,h3⟩
def Lu (H:Hz)(id:Nat):Bool:=match H[id]? with|some (.cells _ _ false)=>true|_=>false
def Qf (H:Hz)(id len:Nat):Bool:=match H[id]? with|some (.cells _ cs true)=>aA (N cs) len|_=>false
theorem good_ok {bs:List Nat}{H:Hz}{id off len:Nat}{v:Value}(hg:Qf H id len=true)(h:G8 bs H id off len v):∃b,bs[id]?=some b∧v= .pointer (some ⟨b,off,none⟩)∧∀off',G8 bs H id off' len (.pointer<|some ⟨b,off',none⟩):=by grind[Qf,G8,cV]
def BX (H:Hz)(off:Nat):AVal→Option AVal
 |.ptr id o=>cond (Lu H id) (some<|.ptr id<|o+off) none|.optr id o len=>cond (Qf H id len) (some<|.optr id (o+off) len) none|.eptr e o=>some (.eptr e<|o+off)|_=>none
theorem Addr.add_at (b o n:Nat):(⟨b,o,none⟩:Addr).add n=⟨b,o+n,none⟩:=by grind[dT]
theorem MI {w:World}{bs:List Nat}{H:Hz}{off:Nat}{p q:AVal}{cp:Value}(hp:Rep F bs H w p cp)(h:BX H off p=some q):
 ∃b o,cp= .pointer (some ⟨b,o,none⟩)∧Rep F bs H w q (.pointer<|some ⟨b,o+off,none⟩):=by
 cases p<;>simp only[BX]at h<;>try (cases h;done)
 all_goals grind[Rep,Lu,Fe,good_ok]
def CT (P:Program)(s:TypeId)(f:Nat):Option Nat:=
 match P.underlying s with
 |some (.struct fields)=>match fields[f]? with
  |some fd=>match P.info? fd.type with
   |some i=>cond (aA i.size 0) none (some fd.offset)|none=>none
  |none=>none
 |_=>none
theorem AO {P:Program}{w:World}{bs:List Nat}{H:Hz}{s:TypeId}{f off:Nat}(hf:CT P s f=some off){p q:AVal}{cp:Value}(hp:Rep F bs H w p cp)(h:BX H off p=some q):
 ∃cv,(Instr.fieldAt s cp f).run P w= .ok cv w∧Rep F bs H w q cv:=by
 obtain⟨b,o,rfl,hq⟩:=MI hp h;refine⟨_,?_,hq⟩;unfold CT at hf;split at hf
 ·rename_i fields hu;split at hf
  ·rename_i fd hfd;split at hf
   ·rename_i i hi;cases hz:aA i.size 0 with
    |true=>rw[hz]at hf;cases hf
    |false=>
     rw[hz]at hf;injection hf with hf;subst hf;have hz':i.size≠0:=λe=>by simp_all
     have hs:(sizeOf fd.type).run P w= .ok i.size w:=PS;simp[Instr.fieldAt,A9 w hu,hfd,aX,fieldPlace,hs,hz',Addr.add_at]
   ·cases hf
  ·cases hf
 ·cases hf
def anil (H:Hz):AVal→Option AVal
 |.ptr id o=>cond (Lu H id) (some<|.ptr id o) none|.optr id o len=>cond (Qf H id len) (some<|.optr id o len) none|.eptr e o=>some (.eptr e o)|.fn f a b=>some (.fn f a b)|_=>none
theorem anil_ok {P:Program}{w:World}{bs:List Nat}{H:Hz}{o:Oper}{x:Operand}(hop:o.op= .nilCheck x){a:Act}{p q:AVal}(hp:Rep F bs H w p<|a.eval x)(h:anil H p=some q):
 (execOp a.eval o).run P w= .ok (.value<|a.eval x) w∧Rep F bs H w q (a.eval x):=by
 have key:q=p∧((∃b,a.eval x= .pointer (some b))∨∃f fs cs,a.eval x= .func (.func f) fs cs):=by
  cases p<;>simp only[anil]at h<;>try (cases h;done)
  all_goals grind[Rep]
 obtain⟨rfl,hk⟩:=key;refine⟨?_,hp⟩;rcases hk with⟨b,hv⟩|⟨f,fs,cs,hv⟩<;>simp_all[execOp]
def Xc (i:Nat):AVal→Option AVal
 |.tup vs=>match vs.drop i with
  |v::_=>some v| []=>none
 |_=>none
theorem GR {P:Program}{w:World}{bs:List Nat}{H:Hz}{i:Nat}{p q:AVal}{cp:Value}(hp:Rep F bs H w p cp)(h:Xc i p=some q):
 ∃cv,(Instr.extract cp i).run P w= .ok cv w∧Rep F bs H w q cv:=by
 cases p<;>simp only[Xc]at h<;>try (cases h;done)
 case tup vs=>
  simp only[Rep]at hp;obtain⟨us,rfl,hl⟩:=hp;cases hd:vs.drop i with
  |nil=>simp[hd]at h
  |cons c rest=>
   simp only[hd,iS]at h;subst h;have hget:vs[i]?=some c:=by have:=congrArg (λl=>l[0]?) hd;grind
   obtain⟨u,hu,hr⟩:=hl.get hget;exact⟨u,by simp[Instr.extract,hu],hr⟩
abbrev AV :=AVal×List (Int×Int)
def Ws (a b:IntKind):Bool:=aA a.ctorIdx b.ctorIdx
theorem BU {a b:IntKind}(h:Ws a b=true):a=b:=by cases a<;>cases b<;>first|rfl|(exact absurd h V)
def CQ (op:BinOp)(k:IntKind)(a b:Int):Option AV:=match op with|.add=>some (.int k<|k.wrap<|a+b,[])|.sub=>some (.int k<|k.wrap<|a-b,[])|.mul=>some (.int k<|k.wrap<|a*b,[])|.quo=>some (.int k<|k.wrap<|a.tdiv b,[(1,b*b)])|.rem=>some (.int k<|a.tmod b,[(1,b*b)])|.eql=>some (.bool<|a==b,[])|.neq=>some (.bool<|a !=b,[])|.lss=>some (.bool<|decide<|a<b,[])|.leq=>some (.bool<|decide<|a≤b,[])|.gtr=>some (.bool<|decide<|b<a,[])|.geq=>some (.bool<|decide<|b≤a,[])|.and=>some (.int k<|k.wrap (cI k.bits a&&&cI k.bits b).toNat,[])|.or=>some (.int k<|k.wrap (cI k.bits a|||cI k.bits b).toNat,[])|_=>none
def EL (op:BinOp)(a b:Bz):Option AV:=match op with|.add=>some (.str<|a++b,[((N a+N b:Nat),140737488355328)])|.eql=>some (.bool<|a==b,[])|.neq=>some (.bool<|!(a==b),[])|.lss=>some (.bool<|Op.bytesLess a b,[])|_=>none
def CB :AVal→AVal→Option Bool
 |.bool a,.bool b=>some (a==b)|.nilPtr,.nilPtr=>some true|.eptr _ _,.nilPtr=>some false|.nilSl,.nilSl=>some true|.emp,.nilSl=>some false|.row _ (_::_),.nilSl=>some false|.hsl _ _ _ _ _,.nilSl=>some false|.ptr _ _,.nilPtr=>some false|.optr _ _ _,.nilPtr=>some false|.nilFn,.nilFn=>some true|.fn _ _ _,.nilFn=>some false|.nilIf,.nilIf=>some true|.iface _ _,.nilIf=>some false|_,_=>none
def Y8 :AVal→TypeDesc→Bool
 |.bool _,.bool=>true|.nilPtr,.pointer _=>true|.nilSl,.slice _=>true|.nilFn,.func _ _ _=>true|.nilIf,.interface _=>true|_,_=>false
def DI (op:BinOp)(d:Option TypeDesc)(x y:AVal):Option AV:=
 match d with
 |none=>none
 |some d=>
  match CB x y with
  |some r=>cond (Y8 y d) (match op with
   |.eql=>some (.bool r,[])|.neq=>some (.bool (!r),[])|_=>none) none
  |none=>none
def Yy (op:BinOp)(d:Option TypeDesc)(x y:AVal):Option AV:=
 match x,y with
 |.int k a,.int k' b=>match op with|.shl=>some (.int k<|k.wrap<|a*2^(min b.toNat k.bits),[(0,b)])|.shr=>some (.int k<|a.fdiv<|2^(min b.toNat k.bits),[(0,b)])|op=>cond (Ws k k') (CQ op k a b) none
 |.str a,.str b=>EL op a b|x,y=>DI op d x y
theorem R3 {P:Program}{w:World}(op:BinOp)(t:TypeId)(x y:Operand)(a b:Value)(h1:¬(a= .nilIface∧b= .nilIface)∨∃c,y= .const c)(h2:∀c,a≠ .agg c):
 (eqGuard op t x y a b).run P w= .ok () w:=by
 have key:∀op,(op= .eql∨op= .neq)→(eqGuard op t x y a b).run P w= .ok () w:=by
  rintro op hop;cases a with
  |nilIface=>
   cases b with
   |nilIface=>
    rcases h1 with h|⟨c,rfl⟩;·grind
    ·rcases hop with rfl|rfl<;>cases x<;>rfl
   |_=>rcases hop with rfl|rfl<;>rfl
  |agg c=>exact absurd rfl (h2 c)|_=>rcases hop with rfl|rfl<;>rfl
 cases op<;>first|(exact key _<|.inl rfl)|(exact key _<|.inr rfl)|rfl
theorem aint_ok {P:Program}{w:World}{bs:List Nat}{H:Hz}{op:BinOp}{k:IntKind}{a b:Int}{v:AVal}{side:List (Int×Int)}(t:TypeId)(h:CQ op k a b=some (v,side))(hs:Ah side):
 ∃cv,(binOp op t (.int k a)<|.int k b).run P w= .ok cv w∧Rep F bs H w v cv:=by
 have nz:(1:Int)≤b*b→b≠0:=λh e=>by grind
 cases op<;>simp only[CQ,iS,iP,reduceCtorEq]at h<;>(try (exact h.elim))<;>obtain⟨rfl,rfl⟩:=h;case quo=>exact⟨_,bY174,Vy⟩
 case rem=>exact⟨_,bY174,Vy⟩
 all_goals exact⟨_,by simp only[binOp,ne_eq,not_true,if_false,Op.intArith,Op.intCmp,Op.intBits];rfl,Vy⟩
theorem astr_ok {P:Program}{w:World}{bs:List Nat}{H:Hz}{op:BinOp}{a b:Bz}{v:AVal}{side:List (Int×Int)}(t:TypeId)(h:EL op a b=some (v,side))(hs:Ah side):
 ∃cv,(binOp op t (.string ⟨a.toArray⟩)<|.string ⟨b.toArray⟩).run P w= .ok cv w∧Rep F bs H w v cv:=by
 cases op<;>simp only[EL,iS,iP,reduceCtorEq]at h<;>(try (exact h.elim))<;>obtain⟨rfl,rfl⟩:=h;case add=>
  refine⟨.string ⟨(a++b).toArray⟩,?_,Vy⟩;have hz:(aK a.toArray).size=N a∧(aK b.toArray).size=N b:=⟨IL,IL⟩;have hle:¬(((aK a.toArray).size+(aK b.toArray).size:Nat):Int)>IntKind.i64.max:=by rw[hz.1,hz.2];have h1:=hs.1;grind[IntKind.max,IntKind.bits]
  have hap:aK a.toArray++aK b.toArray=aK (a++b).toArray:=by apply ByteArray.ext;simp_all
  simp_all[binOp,Op.stringOp]
 all_goals simp_all[binOp,Op.stringOp,Rep]
theorem NP {P:Program}{w:World}{bs:List Nat}{H:Hz}{x y:AVal}{cx cy:Value}{r:Bool}{t:TypeId}{d:TypeDesc}(hx:Rep F bs H w x cx)(hy:Rep F bs H w y cy)(h:CB x y=some r)(hd:Y8 y d=true)(hu:P.underlying t=some d):
 (Op.equal t cx cy).run P w= .ok r w∧(∀c,cx≠ .agg c)∧(∀op,binOp op t cx cy=(match op with|.eql=>do pure (.bool<|←Op.equal t cx cy)|.neq=>do pure (.bool<|!(←Op.equal t cx cy))|_=>binOp op t cx cy)):=by
 unfold CB at h;split at h<;>first|(cases h;done)|(injection h with h;subst h)
 all_goals(cases d<;>simp only[Y8,bFt]at hd)
 all_goals simp only[Rep]at hx hy
 case h_1=>subst hx;subst hy;exact⟨(λn=>by simp only[aB,sRb,A9 w hu,rAo];rfl:∀n,(aB (n+1) t _ _).run P w= .ok _ w) 9999,λc e=>by grind,λop=>by cases op<;>rfl⟩
 case h_2=>subst hx;subst hy;exact⟨(λn=>by simp only[aB,sRb,A9 w hu,rAo];rfl:∀n,(aB (n+1) t _ _).run P w= .ok _ w) 9999,λc e=>by grind,λop=>by cases op<;>rfl⟩
 case h_3=>subst hy;obtain⟨b,base,u,rfl,_⟩:=hx;exact⟨(λn=>by simp only[aB,sRb,A9 w hu,rAo];rfl:∀n,(aB (n+1) t _ _).run P w= .ok _ w) 9999,λc e=>by grind,λop=>by cases op<;>rfl⟩
 case h_4=>subst hx;subst hy;exact⟨(λn=>by simp only[aB,sRb,A9 w hu,rAo];rfl:∀n,(aB (n+1) t _ _).run P w= .ok _ w) 9999,λc e=>by grind,λop=>by cases op<;>rfl⟩
 case h_5=>subst hy;obtain⟨a,rfl⟩:=hx;exact⟨(λn=>by simp only[aB,sRb,A9 w hu,rAo];rfl:∀n,(aB (n+1) t _ _).run P w= .ok _ w) 9999,λc e=>by grind,λop=>by cases op<;>rfl⟩
 case h_6 k e es=>subst hy;obtain⟨a,cap,vs,rfl,hl,_,hrow⟩:=hx;cases a with|none=>have:=hl.length;rw[hrow.1]at this;simp at this|some a=>exact⟨(λn=>by simp only[aB,sRb,A9 w hu,rAo];rfl:∀n,(aB (n+1) t _ _).run P w= .ok _ w) 9999,λc e=>by grind,λop=>by cases op<;>rfl⟩
 case h_7=>subst hy;obtain⟨⟨a,c,_,rfl⟩,_⟩:=hx;exact⟨(λn=>by simp only[aB,sRb,A9 w hu,rAo];rfl:∀n,(aB (n+1) t _ _).run P w= .ok _ w) 9999,λc e=>by grind,λop=>by cases op<;>rfl⟩
 case h_8=>subst hy;obtain⟨⟨a,rfl⟩,_⟩:=hx;exact⟨(λn=>by simp only[aB,sRb,A9 w hu,rAo];rfl:∀n,(aB (n+1) t _ _).run P w= .ok _ w) 9999,λc e=>by grind,λop=>by cases op<;>rfl⟩
 case h_9=>subst hy;obtain⟨⟨a,rfl⟩,_⟩:=hx;exact⟨(λn=>by simp only[aB,sRb,A9 w hu,rAo];rfl:∀n,(aB (n+1) t _ _).run P w= .ok _ w) 9999,λc e=>by grind,λop=>by cases op<;>rfl⟩
 case h_10=>subst hx;subst hy;exact⟨(λn=>by simp only[aB,sRb,A9 w hu,rAo];rfl:∀n,(aB (n+1) t _ _).run P w= .ok _ w) 9999,λc e=>by grind,λop=>by cases op<;>rfl⟩
 case h_11=>subst hy;obtain⟨fs,cs,rfl,_⟩:=hx;exact⟨(λn=>by simp only[aB,sRb,A9 w hu,rAo];rfl:∀n,(aB (n+1) t _ _).run P w= .ok _ w) 9999,λc e=>by grind,λop=>by cases op<;>rfl⟩
 case h_12=>subst hx;subst hy;exact⟨(λn=>by simp only[aB,sRb,A9 w hu,rAo];rfl:∀n,(aB (n+1) t _ _).run P w= .ok _ w) 9999,λc e=>by grind,λop=>by cases op<;>rfl⟩
 case h_13=>subst hy;obtain⟨u,rfl,_⟩:=hx;exact⟨(λn=>by simp only[aB,sRb,A9 w hu,rAo];rfl:∀n,(aB (n+1) t _ _).run P w= .ok _ w) 9999,λc e=>by grind,λop=>by cases op<;>rfl⟩
theorem abin_ok {P:Program}{w:World}{bs:List Nat}{H:Hz}{op:BinOp}{t:TypeId}{d:Option TypeDesc}{x y:AVal}{cx cy:Value}{v:AVal}{side:List (Int×Int)}{ox oy:Operand}
 (hx:Rep F bs H w x cx) (hy:Rep F bs H w y cy) (h:Yy op d x y=some (v,side)) (hs:Ah side) (hu:∀d',d=some d'→P.underlying t=some d')
 (hc:∀ms,d=some (.interface ms)→∃c,oy= .const c):
 ∃cv,(do eqGuard op t ox oy cx cy;binOp op t cx cy:Sem Value).run P w= .ok cv w∧Rep F bs H w v cv:=by
 have rest:∀{x y:AVal}{cx cy:Value},Rep F bs H w x cx→Rep F bs H w y cy→
  DI op d x y=some (v,side)→∃cv,(do eqGuard op t ox oy cx cy;binOp op t cx cy:Sem Value).run P w= .ok cv w∧Rep F bs H w v cv:=by
  intro x y cx cy hx hy h;unfold DI at h;cases d with
  |none=>cases h
  |some d=>
   simp only at h;cases hn:CB x y with
   |none=>simp[hn]at h
   |some r=>
    simp only[hn]at h;cases hd:Y8 y d with
    |false=>rw[hd]at h;cases h
    |true=>
     simp only[hd,cond_true]at h;obtain⟨he,hagg,hb⟩:=NP (P:=P) hx hy hn hd<|hu d rfl;have hg:(eqGuard op t ox oy cx cy).run P w= .ok () w:=by
      refine R3 op t ox oy cx cy ?_ hagg;by_cases hnn:cx= .nilIface∧cy= .nilIface
      ·refine .inr ?_;obtain⟨_,rfl⟩:=hnn;cases d<;>cases y<;>simp only[Y8,bFt]at hd<;>simp only[Rep]at hy<;>first
       |(cases hy;done)
       |exact hc _ rfl
      grind
     cases op<;>simp only[iS,iP,reduceCtorEq]at h<;>(try (exact h.elim))<;>obtain⟨rfl,rfl⟩:=h;·simp_all[Rep]
     ·simp_all[Rep]
 unfold Yy at h;split at h
 ·rename_i k a k' b;simp only[Rep]at hx hy;subst hx;subst hy;have hg:(eqGuard op t ox oy (.int k a)<|.int k' b).run P w= .ok () w:=R3 op t ox oy _ _ (.inl (λe=>by cases e.1)) (λc e=>by injection e);have arith:cond (Ws k k') (CQ op k a b) none=some (v,side)→(op≠ .shl∧op≠ .shr)→∃cv,(do eqGuard op t ox oy (.int k a) (.int k' b);binOp op t (.int k a) (.int k' b):Sem Value).run P w= .ok cv w∧Rep F bs H w v cv:=by
   intro h' _;cases hk:Ws k k' with
   |false=>rw[hk]at h';cases h'
   |true=>rw[hk,cond_true]at h';have:=BU hk;subst this;obtain⟨cv,h1,h2⟩:=aint_ok (P:=P) (w:=w) (bs:=bs) (H:=H) t h' hs;exact⟨cv,by simp_all,h2⟩
  cases op;case shl=>
   simp only[iS,iP]at h;obtain⟨rfl,rfl⟩:=h;have h0:¬b<0:=by have:=hs.1;omega
   exact⟨.int k<|k.wrap<|a*2^(min b.toNat k.bits),bY147,Vy⟩
  case shr=>
   simp only[iS,iP]at h;obtain⟨rfl,rfl⟩:=h;have h0:¬b<0:=by have:=hs.1;omega
   exact⟨.int k<|a.fdiv<|2^(min b.toNat k.bits),bY147,Vy⟩
  all_goals exact arith h B4
 ·simp_all[Rep,R3,astr_ok]
 grind
def aun (op:UnOp):AVal→Option AVal
 |.bool b=>match op with
  |.not=>some (.bool<|!b)|_=>none
 |.int k n=>match op with
  |.neg=>some (.int k<|k.wrap<|0-n)|_=>none
 |_=>none
theorem aun_ok {P:Program}{w:World}{bs:List Nat}{H:Hz}{op:UnOp}{x v:AVal}{cx:Value}(hx:Rep F bs H w x cx)(h:aun op x=some v):
 ∃cv,(Op.unary op cx).run P w= .ok cv w∧Rep F bs H w v cv:=by
 cases x<;>simp only[aun]at h<;>try (cases h;done)
 ·simp only[Rep]at hx;subst hx;cases op<;>simp only[iS,reduceCtorEq]at h;subst h;exact⟨_,rfl,Vy⟩
 ·simp only[Rep]at hx;subst hx;cases op<;>simp only[iS,reduceCtorEq]at h;subst h;exact⟨_,rfl,Vy⟩
def NZ :AVal→Option Int
 |.str s=>some (N s:Nat)|.row _ es=>some (N es:Nat)|.nilSl=>some 0|.emp=>some 0|.hsl _ _ _ len _=>some (len:Nat)|_=>none
theorem alen_ok {P:Program}{w:World}{bs:List Nat}{H:Hz}{x:AVal}{cx:Value}{n:Int}{t T:TypeId}{xs:Array Value}{ts:Array TypeId}(hx:Rep F bs H w x cx)(h:NZ x=some n)(ht:ts[0]?=some t)(hxs:xs[0]?=some cx)(hd:∃d,P.underlying t=some d∧((d= .string∧∃s,x= .str s)∨((∃e,d= .slice e)∧∀s,x≠ .str s))):
 (dI ts T xs).run P w= .ok (.int .i64 n) w:=by
 obtain⟨d,hu,hd⟩:=hd
 have key:∀r,(∀w':World,w'=w→(match d,cx with
  |.string,.string s=>pure (goInt s.size)|.slice _,.slice _ n _=>pure (goInt n)|_,_=>stuck "" :Sem Value).run P w'= .ok r w')→(dI ts T xs).run P w= .ok r w:=by
  intro r hr;have:=hr w Z;simp only[dI,ht,hxs,sRb,A9 w hu,rAo];grind[run_stuck]
 apply key;rintro w' rfl;cases x<;>simp only[NZ,iS,reduceCtorEq]at h<;>simp only[Rep]at hx
 ·rcases hd with⟨rfl,_⟩|⟨_,hn⟩;·simp_all[goInt,dW]
  grind
 ·rcases hd with⟨_,s,hs⟩|⟨⟨e,rfl⟩,_⟩;·cases hs
  ·subst hx;subst h;rfl
 ·rcases hd with⟨_,s,hs⟩|⟨⟨e,rfl⟩,_⟩;·cases hs
  ·obtain⟨a,rfl⟩:=hx;subst h;rfl
 ·rcases hd with⟨_,s,hs⟩|⟨⟨e,rfl⟩,_⟩;·cases hs
  ·obtain⟨a,cap,vs,rfl,_⟩:=hx;subst h;rfl
 ·rcases hd with⟨_,s,hs⟩|⟨⟨e,rfl⟩,_⟩;·cases hs
  ·obtain⟨⟨a,c,_,rfl⟩,_⟩:=hx;subst h;rfl
theorem FH {k:Nat}:∀{vs:List Value}{i:Nat}{u:Value} (_:∀v∈vs,v.cells.size=k) (_:vs[i]?=some u) {j:Nat}{x:Value} (_:u.cells.toList[j]?=some x),(flat vs)[i*k+j]?=some x
 | [],_,_,_,h,_,_,_=>Tf|v::vs,0,u,hk,h,j,x,hx=>by simp at h;subst h;simp only[flat,List.flatMap_cons,cJ,bS];grind|v::vs,i+1,u,hk,h,j,x,hx=>by have hv:=hk v B4;have ih:=FH (vs:=vs) (i:=i) (λu hu=>hk u (by simp[hu])) (by grind) hx;grind[flat]
def Bl (s:Bz)(lo hi:Option Int):AV:=match lo,hi with|none,none=>(.str s,[])|some l,none=>(.str<|s.drop l.toNat,[(0,l),(l,(N s:Nat))])|none,some h=>(.str<|s.take h.toNat,[(0,h),(h,(N s:Nat))])|some l,some h=>(.str<|(s.take h.toNat).drop l.toNat,[(0,l),(l,h),(h,(N s:Nat))])
def Di (k:Nat)(es:List AVal)(lo hi:Option Int):AV:=match lo,hi with|none,none=>(.row k es,[])|some l,none=>(.row k<|es.drop l.toNat,[(0,l),(l,(N es:Nat))])|none,some h=>(.row k<|es.take h.toNat,[(0,h),(h,(N es:Nat))])|some l,some h=>(.row k<|(es.take h.toNat).drop l.toNat,[(0,l),(l,h),(h,(N es:Nat))])
theorem I3 {P:Program}{w:World}{k:IntKind}{i:Int}{y:Nat}{code:BoundsCode}(h0:0≤i)(h1:i≤y):
 (Instr.sliceBound (.int k i) y code).run P w= .ok i.toNat w:=by
 simp[Instr.sliceBound,asIntOf,h0,h1]
theorem Dl {P:Program}{w:World}(isSlice:Bool)(len cap:Nat)(hlc:len≤cap){clo chi:Option Value}{lo hi:Option Int}
 (hlo:(lo=none∧clo=none)∨∃k n,lo=some n∧clo=some (.int k n)) (hhi:(hi=none∧chi=none)∨∃k n,hi=some n∧chi=some (.int k n))
 (h0:0≤lo.getD 0) (h1:lo.getD 0≤hi.getD len) (h2:hi.getD len≤len):
 (bH isSlice len cap clo chi none).run P w= .ok ((lo.getD 0).toNat,(hi.getD len).toNat,cap) w:=by
 rcases hlo with⟨rfl,rfl⟩|⟨k,n,rfl,rfl⟩<;>rcases hhi with⟨rfl,rfl⟩|⟨k',n',rfl,rfl⟩<;>simp only[dR]at h0 h1 h2⊢;·simp[bH]
 ·grind[bH,cG,aQ,bG,I3]
 ·grind[bH,cG,aQ,bG,I3]
 ·simp only[bH,sRb,aQ,rAo];grind[I3,bG]
theorem GY {P:Program}{w:World}{bs:List Nat}{H:Hz}{s:Bz}{clo chi:Option Value}{lo hi:Option Int}{t:TypeId}{v:AVal}{side:List (Int×Int)}
 (hu:P.underlying t=some .string)
 (hlo:(lo=none∧clo=none)∨∃k n,lo=some n∧clo=some (.int k n)) (hhi:(hi=none∧chi=none)∨∃k n,hi=some n∧chi=some (.int k n))
 (h:Bl s lo hi=(v,side)) (hs:Ah side):
 ∃cv,(aM t (.string ⟨s.toArray⟩) clo chi none).run P w= .ok cv w∧Rep F bs H w v cv:=by
 have hz:(aK s.toArray).size=N s:=IL;have hb:0≤lo.getD 0∧lo.getD 0≤hi.getD (N s:Nat)∧hi.getD (N s:Nat)≤(N s:Nat):=by grind[Bl,Ah]
 have hr:=Dl (P:=P) (w:=w) false (N s) (N s) (bC _) hlo hhi hb.1 hb.2.1 hb.2.2;refine⟨.string<|(aK s.toArray).extract (lo.getD 0).toNat (hi.getD (N s:Nat)).toNat,?_,?_⟩;·simp_all[aM,cC,A9]
 ·have hv:v= .str (((s.drop (lo.getD 0).toNat)).take<|(hi.getD (N s:Nat)).toNat-(lo.getD 0).toNat):=by cases lo<;>cases hi<;>simp only[Bl,iP]at h<;>obtain⟨rfl,_⟩:=h<;>simp only[dR];all_goals grind[bU,List.drop_take]
  grind[Rep,ByteArray.extract_mk]
def F7 (P:Program)(t:TypeId):Option (TypeId×Nat):=
 match P.underlying t with
 |some (.slice e)=>match P.info? e with
  |some i=>some (e,i.size)|none=>none
 |_=>none
theorem Gm {P:Program}{t e:TypeId}{k:Nat}(h:F7 P t=some (e,k)):P.underlying t=some (.slice e)∧∀w,(sizeOf e).run P w= .ok k w:=by
 unfold F7 at h;split at h;·rename_i e' hu;split at h<;>simp_all[sizeOf,Et]
 ·cases h
theorem Pn {k:Nat}:∀{vs:List Value} (_:∀v∈vs,v.cells.size=k),N (flat vs)=N vs*k
 | [],_=>by simp[flat]|v::vs,h=>by have ih:=Pn (vs:=vs)<|λu hu=>h u (by simp[hu]);grind[flat]
theorem Vg (vs us:List Value):flat (vs++us)=flat vs++flat us:=by simp[flat]
theorem Ib.sub {bs:List Nat}{w:World}{k:Nat}{a:Addr}{vs:List Value}{cap:Nat}(h:Ib F bs w (some a) vs cap)(hk:∀v∈vs,v.cells.size=k)(l m:Nat)(hl:l≤N vs)(hm:m=cap-l):
 Ib F bs w (some (if cap=l then a else a.add (l*k))) ((vs.drop l).take m) (cap-l)∧(l+m≤cap):=by
 obtain⟨h1,h2,h3⟩:=h;have hcap:N vs≤cap:=h2;refine⟨?_,Y⟩;have hsplit:vs=vs.take l++vs.drop l:=(bX l vs).symm;have hfl:N (flat<|vs.take l)=l*k:=by grind[Pn]
 have htk:(vs.drop l).take m=vs.drop l:=bU (by grind);rw[htk];by_cases hc:cap=l;·have:vs.drop l=[]:=List.drop_eq_nil_of_le Y;rw[if_pos hc,this];exact⟨h1,B4,λj u hj=>by simp[flat]at hj⟩
 ·rw[if_neg hc];have ha:a.add (l*k)=if l*k=0 then a else⟨a.block,a.off+l*k,none⟩:=by unfold dT;rfl
  have hblk:(a.add<|l*k).block=a.block∧(a.add<|l*k).off=a.off+l*k∧(a.add<|l*k).spot=none:=by rw[ha];split<;>grind
  refine⟨hblk.2.2,by grind,λj u hj=>?_⟩;rw[hblk.1,hblk.2.1,Nat.add_assoc];refine h3 (l*k+j) u ?_;rw[hsplit,Vg,List.getElem?_append_right Y,hfl];grind
theorem Ib.take {bs:List Nat}{w:World}{a:Option Addr}{vs:List Value}{cap:Nat}(h:Ib F bs w a vs cap)(m:Nat):Ib F bs w a (vs.take m) cap:=by
 cases a with
 |none=>obtain⟨rfl,rfl⟩:=h;exact⟨B4,rfl⟩
 |some a=>obtain⟨h1,h2,h3⟩:=h;refine⟨h1,by grind,λj u hj=>h3 j u ?_⟩;have hsplit:vs=vs.take m++vs.drop m:=(bX m vs).symm;rw[hsplit,Vg];rw[aI (aC.1 hj).1];exact hj
theorem HI {P:Program}{w:World}{bs:List Nat}{H:Hz}{k:Nat}{es:List AVal}{clo chi:Option Value}{lo hi:Option Int}{t e:TypeId}{v:AVal}{cx:Value}{side:List (Int×Int)}
 (ht:F7 P t=some (e,k)) (hx:Rep F bs H w (.row k es) cx)
 (hlo:(lo=none∧clo=none)∨∃k n,lo=some n∧clo=some (.int k n)) (hhi:(hi=none∧chi=none)∨∃k n,hi=some n∧chi=some (.int k n))
 (h:Di k es lo hi=(v,side)) (hs:Ah side):
 ∃cv,(aM t cx clo chi none).run P w= .ok cv w∧Rep F bs H w v cv:=by
 obtain⟨hu,hsz⟩:=Gm ht;simp only[Rep]at hx;obtain⟨a,cap,vs,rfl,hl,hk,hrow⟩:=hx;have hlen:=hl.length;have hcap:N es≤cap:=by
  cases a with
  |none=>obtain⟨h1,h2⟩:=hrow;simp[h1]at hlen;omega
  |some a=>have:=hrow.2.1;omega
 have hb:0≤lo.getD 0∧lo.getD 0≤hi.getD (N es:Nat)∧hi.getD (N es:Nat)≤(N es:Nat):=by grind[Di,Ah]
 have hr:=Dl (P:=P) (w:=w) true (N es) cap hcap hlo hhi hb.1 hb.2.1 hb.2.2;refine⟨.slice (if cap=(lo.getD 0).toNat then a else a.map (·.add ((lo.getD 0).toNat*k))) ((hi.getD (N es:Nat)).toNat-(lo.getD 0).toNat)<|cap-(lo.getD 0).toNat,?_,?_⟩;·simp_all[aM,cC,A9]
 ·have hv:v= .row k ((es.take (hi.getD (N es:Nat)).toNat).drop (lo.getD 0).toNat):=by cases lo<;>cases hi<;>simp only[Di,iP]at h<;>obtain⟨rfl,_⟩:=h<;>simp only[dR]<;>simp
  rw[hv];simp only[Rep];refine⟨if cap=(lo.getD 0).toNat then a else a.map (·.add ((lo.getD 0).toNat*k)),cap-(lo.getD 0).toNat,(vs.take (hi.getD (N es:Nat)).toNat).drop (lo.getD 0).toNat,?_,(hl.take _).drop _,λu hu=>hk u<|dA<|List.mem_of_mem_drop hu,?_⟩;·grind
  ·cases a with
   |none=>obtain⟨rfl,rfl⟩:=hrow;simp[Ib]
   |some a=>
    have h2:=(hrow.take (hi.getD (N es:Nat)).toNat);have h3:=(Ib.sub (k:=k) h2 (λu hu=>hk u<|dA hu) (lo.getD 0).toNat (cap-(lo.getD 0).toNat) (by grind) Z).1;rw[bU (by grind)]at h3;have he:(if cap=(lo.getD 0).toNat then some a else(some a).map (·.add ((lo.getD 0).toNat*k)))=some (if cap=(lo.getD 0).toNat then a else a.add ((lo.getD 0).toNat*k)):=by grind
    rw[he];exact h3
theorem IM {P:Program}{w:World}{bs:List Nat}{H:Hz}{s:Bz}{k:IntKind}{i:Int}{t:TypeId}(hu:P.underlying t=some .string)(h0:0≤i)(h1:i+1≤(N s:Nat)):
 ∃cv,(Instr.index t (.string ⟨s.toArray⟩)<|.int k i).run P w= .ok cv w∧Rep F bs H w (.int .u8 (s.getD i.toNat 0).toNat) cv:=by
 have hlt:i.toNat<N s:=Y;have hg:(aK s.toArray)[i.toNat]?=some s[i.toNat]:=by rw[ByteArray.getElem?_lt' _ _ (by grind[dW])];rfl
 simp_all[Rep,Instr.index,asIntOf,A9]
theorem JF {P:Program}{w:World}{bs:List Nat}{H:Hz}{kk:Nat}{es:List AVal}{k:IntKind}{i:Int}{t e:TypeId}{cx:Value}(ht:F7 P t=some (e,kk))(hk1:1≤kk)(hx:Rep F bs H w (.row kk es) cx)(h0:0≤i)(h1:i+1≤(N es:Nat))(dflt:AVal):
 ∃cv,(aV t cx<|.int k i).run P w= .ok cv w∧Rep F bs H w (.eptr (es.getD i.toNat dflt) 0) cv:=by
 obtain⟨hu,hsz⟩:=Gm ht;simp only[Rep]at hx;obtain⟨a,cap,vs,rfl,hl,hk,hrow⟩:=hx;have hlt:i.toNat<N es:=Y;have hget:es[i.toNat]?=some (es.getD i.toNat dflt):=by grind
 obtain⟨u,hu',hru⟩:=hl.get hget;cases a with
 |none=>obtain⟨h2,_⟩:=hrow;subst h2;simp at hu'
 |some a=>
  obtain⟨h2,h3,h4⟩:=hrow;obtain⟨ab,ao,asp⟩:=a;simp only at h2;subst h2;have hus:u.cells.size=kk:=hk u<|mGe hu';have hx0:∀j x,u.cells.toList[j]?=some x→(ab∉bs∧¬F ab)∧w.cell? ⟨ab,ao+i.toNat*kk+j,none⟩=some x:=λj x hx=>by have:=h4 _ _<|FH hk hu' hx;grind
  have h00:∃x,u.cells.toList[0]?=some x:=⟨u.cells.toList[0]'(Jo),gGe _⟩;obtain⟨x0,hx00⟩:=h00;obtain⟨hnb,hc0⟩:=hx0 0 x0 hx00;refine⟨.pointer<|some ⟨ab,ao+i.toNat*kk,none⟩,?_,?_⟩
  ·have hii:0≤i∧i<(N es:Int):=by omega
   simp only[aV,asIntOf,sRb,aQ,rAo,A9 w hu,hii,and_self,if_true,hsz,Addr.add_at]
  ·simp only[Rep];exact⟨ab,ao+i.toNat*kk,u,B4,hru,hnb,cR w ⟨ab,ao+i.toNat*kk+0,none⟩ hc0,λj x hx=>(hx0 j x hx).2⟩
theorem HF {P:Program}{w:World}{bs:List Nat}{H:Hz}{kk id off len:Nat}{cap:Option Nat}{k:IntKind}{i:Int}{t e:TypeId}{cx:Value}(ht:F7 P t=some (e,kk))(hlive:Lu H id=true)(hx:Rep F bs H w (.hsl kk id off len cap) cx)(h0:0≤i)(h1:i+1≤(len:Nat)):
 ∃cv,(aV t cx<|.int k i).run P w= .ok cv w∧Rep F bs H w (.ptr id<|off+i.toNat*kk) cv:=by
 obtain⟨hu,hsz⟩:=Gm ht;simp only[Rep]at hx;obtain⟨_,hx⟩:=hx;unfold Lu at hlive;split at hlive
 ·rename_i T cs ho;unfold D1 at hx;rw[ho]at hx;obtain⟨_,hx⟩:=hx;obtain⟨b,c,hb,rfl,hlc,_,_⟩:=hx B4;refine⟨.pointer<|some ⟨b,off+i.toNat*kk,none⟩,?_,?_⟩
  ·have hii:0≤i∧i<(len:Int):=by omega
   simp only[aV,asIntOf,sRb,aQ,rAo,A9 w hu,hii,and_self,if_true,hsz,Addr.add_at]
  grind[Rep,Fe]
 grind
theorem GG {P:Program}{w:World}{bs:List Nat}{H:Hz}{kk id len:Nat}{cap:Option Nat}{k:IntKind}{i:Int}{t e:TypeId}{cx:Value}(ht:F7 P t=some (e,kk))(hgood:Qf H id (len*kk)=true)(hx:Rep F bs H w (.hsl kk id 0 len cap) cx)(h0:0≤i)(h1:i+1≤(len:Nat)):
 ∃cv,(aV t cx<|.int k i).run P w= .ok cv w∧Rep F bs H w (.optr id (i.toNat*kk)<|len*kk) cv:=by
 obtain⟨hu,hsz⟩:=Gm ht;simp only[Rep]at hx;obtain⟨_,hx⟩:=hx;unfold Qf at hgood;split at hgood
 ·rename_i T cs ho;have hlen:=nBq hgood;unfold D1 at hx;rw[ho]at hx;obtain⟨hle,hx⟩:=hx;obtain⟨b,c,hb,rfl,hlc,_,_⟩:=hx<|λ_=>⟨rfl,hlen.symm⟩;refine⟨.pointer<|some ⟨b,0+i.toNat*kk,none⟩,?_,?_⟩
  ·have hii:0≤i∧i<(len:Int):=by omega
   simp only[aV,asIntOf,sRb,aQ,rAo,A9 w hu,hii,and_self,if_true,hsz,Addr.add_at]
  simp_all[Rep,G8]
 grind
def Px (P:Program)(t:TypeId):Option (Nat×Nat):=
 match P.underlying t with
 |some (.array n e)=>match P.info? e with
  |some i=>some (n,i.size)|none=>none
 |_=>none
theorem Yh {P:Program}{t:TypeId}{n k:Nat}(h:Px P t=some (n,k)):∃e,P.underlying t=some (.array n e)∧∀w,(sizeOf e).run P w= .ok k w:=by
 unfold Px at h;split at h;·rename_i n' e' hu;split at h<;>simp_all[sizeOf,Et]
 ·cases h
theorem GW {P:Program}{w:World}{bs:List Nat}{H:Hz}{n kk:Nat}{k:IntKind}{i:Int}{t:TypeId}{p q:AVal}{cp:Value}(ht:Px P t=some (n,kk))(hp:Rep F bs H w p cp)(h0:0≤i)(h1:i+1≤(n:Nat))(h:BX H (i.toNat*kk) p=some q):
 ∃cv,(aV t cp<|.int k i).run P w= .ok cv w∧Rep F bs H w q cv:=by
 obtain⟨e,hu,hsz⟩:=Yh ht;obtain⟨b,o,rfl,hq⟩:=MI hp h;refine⟨_,?_,hq⟩;have hii:0≤i∧i<(n:Int):=Y;simp only[aV,asIntOf,sRb,aQ,rAo,A9 w hu,aX,hii,and_self,if_true,hsz,Addr.add_at]
theorem PP {P:Program}{w:World}{bs:List Nat}{H:Hz}{f:FuncId}{first cap args:List AVal}{cf:Value}{cargs:List Value}(hf:Rep F bs H w (.fn f first cap) cf)(ha:Ab F bs H w args cargs)
 (hb:∃fn c,P.funcs[f]?=some fn∧fn.body=some c∧fn.name≠ "runtime.NumGoroutine"):
 ∃us:List Value,(do let d←cL cf cargs.toArray;invoke d.target d.args:Sem Next).run P w= .ok (.enter f us.toArray) w∧Ab F bs H w (first++args++cap) us:=by
 obtain⟨fn,c,h1,h2,h3⟩:=hb;simp only[Rep]at hf;obtain⟨fs,cs,rfl,hfs,hcs⟩:=hf;refine⟨fs++cargs++cs,?_,(hfs.append ha).append hcs⟩;simp[cL,invoke,callFunc,h1,h2,h3]
theorem Z1 (ρ:Operand→Value)(f:Operand)(args:Array Operand)(ts:Array TypeId)(T:TypeId):
 resolve ρ {callee:=.value f,args:=args,argTypes:=ts} T=cL (ρ f) (args.map ρ):=rfl
def Jb (n:Nat)(agg:Bool)(off:Nat):AVal→Option AVal
 |.agg cs=>match agg with
  |true=>some<|.agg<|(cs.drop off).take n
  |false=>match cs.drop off with
   |c::_=>some c| []=>none
 |_=>none
def Vj :List AVal→List (Nat×Nat×AVal)→Option (List AVal)
 |cs,[]=>some cs|cs,(off,n,x)::r=>cond (aA (N x.cells) n&&bK (off+n) (N cs)) (Vj (spl cs off x.cells) r) none
theorem GD (off:Nat):∀(vs:List Value) (i:Nat) (cells:Array Value),off+i+N vs≤cells.size→
 ((vs.zipIdx i).foldl (λcs (c,j)=>cs.setIfInBounds (off+j) c) cells).toList=cells.toList.take (off+i)++(vs++cells.toList.drop (off+i+N vs))
 | [],i,cells,_=>B4|v::vs,i,cells,h=>by simp only[List.zipIdx_cons,List.foldl_cons];rw[GD off vs (i+1) (cells.setIfInBounds (off+i) v) (by grind)];have e:=list_seg_step cells.toList (off+i) v vs Y;grind
theorem CU {bs:List Nat}{H:Hz}{w:World}{place:Nat→Option (Nat×Nat)}:∀{ps:List (Nat×Value)}{qs:List (Nat×Nat×AVal)}{cs:List AVal}{cells:Array Value}{r:List AVal},
 Ab F bs H w cs cells.toList→(∀(j:Nat) (p:Nat×Value),ps[j]?=some p→∃q:Nat×Nat×AVal,qs[j]?=some q∧place p.1=some (q.1,q.2.1)∧Rep F bs H w q.2.2 p.2)→N qs=N ps→Vj cs qs=some r→
 ∃cells',bZ place cells ps=some cells'∧Ab F bs H w r cells'.toList
 | [],qs,cs,cells,r,hl,_,hn,h=>by have:qs=[]:=bF Y;subst this;simp only[Vj,iS]at h;subst h;exact⟨cells,Z,hl⟩
 |(i,v)::ps,qs,cs,cells,r,hl,hp,hn,h=>by
  cases qs with
  |nil=>simp at hn
  |cons q qs=>
   obtain⟨q',hq,hpl,hr⟩:=hp 0 (i,v) rfl;simp at hq;subst hq;obtain⟨off,n,x⟩:=q;simp only[Vj]at h;cases hc:(aA (N x.cells) n&&bK (off+n) (N cs))with
   |false=>rw[hc]at h;cases h
   |true=>
    rw[hc,cond_true]at h;simp only[bAt]at hc;have h1:=nBq hc.1;have h2:=aO hc.2;have hxc:=hr.cells;have hxl:=hxc.length;have hll:=hl.length;simp only at hpl hxl hxc;have hsz:v.cells.size=n:=by grind
    have hfold:=GD off v.cells.toList 0 cells (by grind);simp only[aZ]at hfold;have hl':Ab F bs H w (spl cs off x.cells) ((v.cells.toList.zipIdx 0).foldl (λcs (c,j)=>cs.setIfInBounds (off+j) c) cells).toList:=by rw[hfold,spl,←hxl];exact(hl.take off).append<|hxc.append<|hl.drop _
    obtain⟨cells',hf,hr'⟩:=CU (ps:=ps) (qs:=qs) hl' (λj p hj=>hp (j+1) p (by grind)) (by grind) h;refine⟨cells',?_,hr'⟩;simp only[bZ,hpl];have hll':cells.size=N cs:=Y;rw[if_neg Jo];rw[←hf,←dJ,Array.toList_zipIdx]
def Cm (k:Nat)(H:Hz):AVal→Option (List AVal×Nat)
 |.row k' es=>cond (aA k k') (some (es.flatMap AVal.cells,N es)) none|.nilSl=>some ([],0)|.emp=>some ([],0)
 |.hsl k' id off len _=>cond (aA k k') (match H[id]? with
  |some (.cells _ cs false)=>some ((cs.drop off).take (len*k),len)|some (.cells _ cs true)=>cond (aA (len*k) (N cs)&&aA off 0) (some (cs,len)) none|_=>none) none
 |_=>none
theorem Ab.flat {bs:List Nat}{H:Hz}{w:World}:∀{es:List AVal}{vs:List Value},Ab F bs H w es vs→Ab F bs H w (es.flatMap AVal.cells) (flat vs)
 | [],_,h=>by simp only[Ab]at h;subst h;simp[Abs.flat,Ab]|e::es,_,h=>by simp only[Ab]at h;obtain⟨u,us,rfl,h1,h2⟩:=h;simp only[Abs.flat,List.flatMap_cons];exact h1.cells.append<|Ab.flat h2
theorem Ub {W0 w:World}{bs:List Nat}{H:Hz}(hh:Ae W0 F bs H w){k:Nat}{y:AVal}{cy:Value}{ys:List AVal}{m:Nat}(hy:Rep F bs H w y cy)(h:Cm k H y=some (ys,m)):
 ∃a c us,cy= .slice a m c∧Ab F bs H w ys us∧N us=m*k∧(a=none→m=0)∧∀a',a=some a'→∀j u,us[j]?=some u→w.cell? (a'.add j)=some u:=by
 cases y<;>simp only[Cm]at h<;>try (cases h;done)
 case nilSl=>simp only[iS,iP]at h;obtain⟨rfl,rfl⟩:=h;simp_all[Rep,Ab]
 case emp=>simp only[iS,iP]at h;obtain⟨rfl,rfl⟩:=h;simp only[Rep]at hy;obtain⟨a,rfl⟩:=hy;simp_all[Ab]
 case row k' es=>
  cases hk:aA k k' with
  |false=>rw[hk]at h;cases h
  |true=>
   rw[hk]at h;have:=nBq hk;subst this;simp only[cond_true,iS,iP]at h;obtain⟨rfl,rfl⟩:=h;simp only[Rep]at hy;obtain⟨a,cap,vs,rfl,hl,hk,hrow⟩:=hy;refine⟨a,cap,flat vs,Z,hl.flat,by rw[Pn hk,hl.length],λha=>?_,λa' ha j u hj=>?_⟩;·subst ha;have:=hl.length;rw[hrow.1]at this;grind
   ·subst ha;obtain⟨h1,_,h3⟩:=hrow;obtain⟨ab,ao,asp⟩:=a'<;>grind[Addr.add_at]
 case hsl k' id off len cap=>
  cases hk:aA k k' with
  |false=>rw[hk]at h;cases h
  |true=>
   rw[hk]at h;have:=nBq hk;subst this;simp only[cond_true]at h;simp only[Rep]at hy;obtain⟨_,hy⟩:=hy;unfold D1 at hy;split at h
   ·rename_i T cs ho;simp only[iS,iP]at h;obtain⟨rfl,rfl⟩:=h;rw[ho]at hy;obtain⟨hle,hy⟩:=hy;obtain⟨b,c,hb,rfl,_⟩:=hy B4;obtain⟨vs,rest,fr,hcell,hl,_⟩:=hh.obj id _ b ho hb;refine⟨some ⟨b,off,none⟩,c,(vs.drop off).take<|len*k,rfl,(hl.drop off).take _,?_,(λh=>by cases h),λa' ha j u hj=>?_⟩;·have:=hl.length;grind
    ·injection ha with ha;subst ha;rw[Addr.add_at,cell_of_row w b _ _ T fr hcell];grind
   ·rename_i T cs ho;cases hc:(aA (len*k) (N cs)&&aA off 0)with
    |false=>rw[hc]at h;cases h
    |true=>rw[hc]at h;simp only[bAt]at hc;have h1:=nBq hc.1;have h2:=nBq hc.2;subst h2;simp only[cond_true,iS,iP]at h;obtain⟨rfl,rfl⟩:=h;rw[ho]at hy;obtain⟨hle,hy⟩:=hy;obtain⟨b,c,hb,rfl,_⟩:=hy<|λ_=>⟨rfl,h1⟩;obtain⟨vs,rest,fr,hcell,hl,_⟩:=hh.obj id _ b ho hb;refine⟨some ⟨b,0,none⟩,c,vs,rfl,hl,by rw[hl.length,h1],(λh=>by cases h),λa' ha j u hj=>?_⟩;injection ha with ha;subst ha;rw[Addr.add_at,cell_of_row w b _ _ _ fr hcell];have hjl:=(aC.1 hj).1;simp only[bS,bW];rw[aI hjl];exact hj
   ·cases h
theorem Ae.drew {W0 w:World}{bs:List Nat}{H:Hz}(h:Ae W0 F bs H w):Ae W0 F bs H w.drew∧Ext bs H w bs H w.drew:=by
 have he:Ext bs H w bs H w.drew:=⟨bC _,λ_ _ _=>Z,λ_ h=>.inl h,λi o ho=>⟨o,ho,by
  cases o with
  |dead=>simp[Bi]|iter s p=>exact .inr ⟨s,p,rfl,rfl⟩|mp es=>exact .inr ⟨es,rfl,rfl⟩
  |cells T cs op=>cases op with
   |false=>exact .inr ⟨T,cs,rfl,rfl,rfl⟩|true=>exact .inr ⟨T,cs,rfl,.inr ⟨rfl,rfl,λ_ _=>rfl⟩⟩⟩⟩
 exact⟨⟨h.len,h.base.drew,h.low,h.nodup,h.forb,λi o b ho hb=>(h.obj i o b ho hb).ext he Z⟩,he⟩
theorem AD {W0 w:World}{bs:List Nat}{H:Hz}(h:Ae W0 F bs H w){id:Nat}{T:TypeId}(hT:bB T 1000000=true){cs cs':List AVal}(ho:H[id]?=some (.cells T cs true))(hlt:N cs<N cs')(us rest:List Value)
 (hl:Ab F bs H w cs' us):
 Ae W0 F (bs.set id w.heap.size) (H.set id<|.cells T cs' true) (w.alloc<|.cells (us++rest).toArray T)∧
 Ext bs H w (bs.set id w.heap.size) (H.set id<|.cells T cs' true) (w.alloc<|.cells (us++rest).toArray T):=by
 have hid:id<N H:=(aC.1 ho).1;have hidb:id<N bs:=by rw[h.len];exact hid
 have he:Ext bs H w (bs.set id w.heap.size) (H.set id<|.cells T cs' true) (w.alloc<|.cells (us++rest).toArray T):=by
  refine⟨B4,λk hk _=>aY w _ k hk,λk hk=>?_,λj x hx=>?_⟩;·grind
  ·by_cases hij:j=id;·subst hij;rw[ho]at hx;injection hx with hx;subst hx;exact⟨_,by grind,.inr ⟨T,cs',rfl,.inl hlt⟩⟩
   ·refine⟨x,by grind,?_⟩;have hb':(bs.set id w.heap.size)[j]?=bs[j]?:=bY<|Ne.symm hij;have hz:∀b,bs[j]?=some b→Dj (w.alloc<|.cells (us++rest).toArray T) b=Dj w b:=λb hb=>by have:b<w.heap.size:=(h.low b<|mGe hb).2;grind[Dj,aY]
    cases x with
    |dead=>simp[Bi]|iter s p=>exact .inr ⟨s,p,rfl,hb'⟩|mp es=>exact .inr ⟨es,rfl,hb'⟩
    |cells T cs op=>cases op with
     |false=>exact .inr ⟨T,cs,rfl,rfl,hb'⟩|true=>exact .inr ⟨T,cs,rfl,.inr ⟨rfl,hb',hz⟩⟩
 refine⟨⟨by simp[h.len],h.base.alloc h.base.size _,λb hb=>?_,?_,λb hb=>?_,λj x b hx hb=>?_⟩,he⟩
 ·rcases List.mem_or_eq_of_mem_set hb with h'|h';·have:=h.low b h';simp;omega
  ·subst h';simp;exact h.base.size
 ·rw[List.nodup_iff_pairwise_ne,bO];intro i j hi hj hij;simp only[List.length_set]at hi hj;simp only[List.getElem_set];have hp:=bO.1 h.nodup i j hi hj hij;have hlow:=λ(i:Nat) (hi:i<N bs)=>(h.low (bs[i])<|List.getElem_mem hi).2;grind
 ·obtain⟨h1,h2,h3⟩:=h.forb b hb;refine⟨h1,Jo,λhm=>?_⟩;grind
 ·by_cases hij:j=id;·subst hij;rw[bD hid]at hx;injection hx with hx;subst hx;rw[bD hidb]at hb;injection hb with hb;subst hb;exact⟨us,rest,(0,0),by grind[Jh,heap_alloc_new],Ab.ext he _ _ hl,λ_=>rfl⟩
  ·rw[bY<|Ne.symm hij]at hx hb;exact(h.obj j x b hx hb).ext he<|aY w _ b (h.low b<|mGe hb).2
def Gn (P:Program)(t:TypeId):Option (TypeId×Nat×Nat):=
 match P.underlying t with
 |some (.slice e)=>match P.info? e with
  |some i=>match i.zero with
   |some z=>cond (aA z.cells.size i.size&&bK 1 i.size&&bB e 1000000) (some (e,i.size,i.bytes)) none|none=>none
  |none=>none
 |_=>none
theorem Kv {P:Program}{t e:TypeId}{k b:Nat}(h:Gn P t=some (e,k,b)):P.underlying t=some (.slice e)∧1≤k∧∃i z,P.info? e=some i∧i.zero=some z∧i.size=k∧i.bytes=b∧z.cells.size=k:=by
 unfold Gn at h;split at h
 ·rename_i e' hu;split at h
  ·rename_i i hi;split at h
   ·rename_i z hz;cases hc:(aA z.cells.size i.size&&bK 1 i.size&&bB e' 1000000)with
    |false=>rw[hc]at h;cases h
    |true=>rw[hc]at h;simp only[cond_true,iS,iP]at h;obtain⟨rfl,rfl,rfl⟩:=h;simp only[bAt]at hc;exact⟨hu,aO hc.1.2,i,z,hi,hz,Z,Z,nBq hc.1.1⟩
   ·cases h
  ·cases h
 ·cases h
theorem Yq {P:Program}{t e:TypeId}{k b:Nat}(h:Gn P t=some (e,k,b)):bB e 1000000=true:=by unfold Gn at h;grind
def C0 :Int:=140737488355328
def G6 (e k b:Nat)(H:Hz)(ys:List AVal)(m:Nat):AVal→Option (AVal×Hz×List (Int×Int))
 |.nilSl=>some (.hsl k (N H) 0 m none,H++[.cells e ys true],[((m*b:Nat),C0),((m:Nat),C0)])|.emp=>some (.hsl k (N H) 0 m none,H++[.cells e ys true],[((m*b:Nat),C0),((m:Nat),C0)])
 |.hsl k' id off len cap=>cond (aA k k') (match H[id]? with
  |some (.cells T cs true)=>cond (aA T e&&aA off 0&&aA (len*k) (N cs)) (some (.hsl k id 0 (len+m) none,H.set id<|.cells T (cs++ys) true,[(((len+m)*b:Nat),C0),((len+m:Nat),C0)])) none|some (.cells _ cs false)=>cond (match cap with|some c=>aA c len|none=>false) (some (.hsl k (N H) 0 (len+m) none,H++[.cells e ((cs.drop off).take (len*k)++ys) true],[(((len+m)*b:Nat),C0),((len+m:Nat),C0)])) none
  |_=>none) none
 |_=>none
def isSl :AVal→Bool
 |.nilSl|.emp|.row _ _|.hsl _ _ _ _ _=>true|_=>false
def P4 (e k b:Nat)(H:Hz)(x y:AVal):Option (AVal×Hz×List (Int×Int)):=match Cm k H y with|none=>none|some (ys,m)=>cond (aA m 0) (cond (isSl x) (some (x,H,[])) none)<|cond (ys.all AVal.one) (G6 e k b H ys m x) none
theorem Vs {P:Program}{w:World}{t ty e:TypeId}{k:Nat}(hu:P.underlying t=some (.slice e))(hs:(sizeOf e).run P w= .ok k w)(base:Option Addr)(n c:Nat)(hnc:n≤c)(a:Option Addr)(cy:Nat):
 (bP #[t,t] ty #[.slice base n c,.slice a 0 cy]).run P w= .ok (.slice base n c) w:=by
 have hst:∀a':Addr,(storeCells a' []).run P w= .ok () w:=λa'=>rfl;cases a with
 |none=>cases base<;>simp[bP,A9 w hu,hs,Builtin.lenOf,hnc,dK,hst]
 |some a=>cases base<;>simp[bP,A9 w hu,hs,Builtin.lenOf,hnc,dK,loadCells,loadCellsFrom,hst]
theorem Jp (z:Array Value)(n:Nat):(aJ z n).size=n*z.size:=size_zeroCells z n
theorem Xy {W0 w:World}{bs:List Nat}{H:Hz}(hh:Ae W0 F bs H w)(T k n c:Nat)(hT:bB T 1000000=true){cs:List AVal}{us:List Value}(rest:List Value)(hl:Ab F bs H w cs us)(hn:N us=n*k)(hc:c*k=N us+N rest)(hnc:n≤c)(hcm:c≤maxLen):
 Rep F (bs++[w.heap.size]) (H++[.cells T cs true]) (w.alloc<|.cells (us++rest).toArray T) (.hsl k (N H) 0 n none) (.slice (some ⟨w.heap.size,0,none⟩) n c)∧
 Ae W0 F (bs++[w.heap.size]) (H++[.cells T cs true]) (w.alloc<|.cells (us++rest).toArray T)∧
 Ext bs H w (bs++[w.heap.size]) (H++[.cells T cs true]) (w.alloc<|.cells (us++rest).toArray T):=by
 have he:=Ext.alloc hh.len (λb hb=>(hh.low b hb).2) (.cells (us++rest).toArray T)<|.cells T cs true;refine⟨?_,hh.alloc _ _ ⟨us,rest,(0,0),by grind[Jh,heap_alloc_new],Ab.ext he _ _ hl,λ_=>rfl⟩,he⟩;simp only[Rep,D1,aD];have hll:=hl.length;refine⟨⟨_,c,hnc,Z⟩,Y,λ_=>⟨w.heap.size,c,IX,Z,hnc,B4,λ_=>⟨hcm,?_⟩⟩⟩;grind[Dj,heap_alloc_new]
theorem Hi {m:Nat}(h:((m:Nat):Int)≤C0):m≤140737488355328:=by grind[C0]
theorem aapp_ok {P:Program}{W0 w:World}{bs:List Nat}{H H':Hz}(hh:Ae W0 F bs H w){t ty e:TypeId}{k b:Nat}(ht:Gn P t=some (e,k,b)){x y v:AVal}{cx cy:Value}{side:List (Int×Int)}
 (hx:Rep F bs H w x cx) (hy:Rep F bs H w y cy) (h:P4 e k b H x y=some (v,H',side)) (hs:Ah side):
 ∃cv w' bs',(bP #[t,t] ty #[cx,cy]).run P w= .ok cv w'∧Rep F bs' H' w' v cv∧Ae W0 F bs' H' w'∧Ext bs H w bs' H' w':=by
 obtain⟨hu,hk1,i,z,hi,hz,hisz,hiby,hzsz⟩:=Kv ht;have hTe:=Yq ht;subst hisz;subst hiby
 have hsz:(sizeOf e).run P w= .ok i.size w:=PS;unfold P4 at h;cases hyc:Cm i.size H y with
 |none=>rw[hyc]at h;cases h
 |some p=>
  obtain⟨ys,m⟩:=p;rw[hyc]at h;simp only at h;obtain⟨a,cc,us,rfl,hl,hlen,hnone,hmem⟩:=Ub hh hy hyc;have hll:=hl.length;cases hm0:aA m 0 with
  |true=>
   have:=nBq hm0;subst this;rw[hm0,cond_true]at h;cases hsl:isSl x with
   |false=>rw[hsl]at h;cases h
   |true=>
    rw[hsl,cond_true]at h;simp only[iS,iP]at h;obtain⟨rfl,rfl,rfl⟩:=h;have hcx:∃base n c,n≤c∧cx= .slice base n c:=by
     cases x<;>simp only[isSl,bFt]at hsl<;>simp only[Rep]at hx;·grind
     ·grind
     ·obtain⟨a,cap,vs,rfl,h1,_,h3⟩:=hx;refine⟨a,_,cap,?_,Z⟩;have:=h1.length;cases a with|none=>rw[h3.1]at this;simp at this;omega|some a=>have:=h3.2.1;omega
     grind
    obtain⟨base,n,c,hnc,rfl⟩:=hcx;exact⟨_,w,bs,Vs hu hsz base n c hnc a cc,hx,hh,Ext.refl _ _ _⟩
  |false=>
   have hmpos:0<m:=by cases m<;>simp_all
   rw[hm0,cond_false]at h;cases hall:ys.all AVal.one with
   |false=>rw[hall]at h;cases h
   |true=>
    rw[hall,cond_true]at h;have hone:=hl.one hall;cases a with
    |none=>have:=hnone rfl;omega
    |some ad=>
     have hcells:=hmem ad Z;have hlt:N H=N bs:=hh.len.symm;have fromNil:∀base c0,cx= .slice base 0 c0→c0=0→G6 e i.size i.bytes H ys m .nilSl=some (v,H',side)→
      ∃cv w' bs',(bP #[t,t] ty #[cx,.slice (some ad) m cc]).run P w= .ok cv w'∧Rep F bs' H' w' v cv∧Ae W0 F bs' H' w'∧Ext bs H w bs' H' w':=by
      rintro base c0 rfl rfl h;simp only[G6,iS,iP]at h;obtain⟨rfl,rfl,rfl⟩:=h;have hr1:=Hi hs.1;have hr2:=Hi hs.2.1;have hg:=grownCap_ge w m 0 e;have hgm:=grownCap_le_maxLen w m 0 e (by grind[maxLen]);obtain⟨hdr,hde⟩:=hh.drew
      obtain⟨h1,h2,h3⟩:=Xy (W0:=W0) hdr e i.size m (grownCap w m 0 e) hTe (aJ z.cells (grownCap w m 0 e-m)).toList (Ab.ext hde _ _ hl) hlen (by
       have:=Jp z.cells<|grownCap w m 0 e-m;simp only[cA,this,hzsz,hlen]
       rw[←bE];grind) hg hgm
      refine⟨_,_,_,?_,h1,h2,hde.trans h3⟩;cases base with|none=>rw[run_append_nil w t ty e i z hu hi hz ad m cc us hlen hcells hmpos Y Y];congr 3;apply dU;simp|some bb=>rw[run_append_grow w t ty e i z hu hi hz bb 0 0 [] B4 (λj v h=>by simp at h) ad m cc us hlen hcells Y Y (by rw[bS,nextslicecap_zero hmpos];omega)];simp only[bS];congr 3;apply dU;simp
     cases x<;>simp only[G6]at h<;>try (cases h;done)
     case nilSl=>grind[Rep,G6]
     case emp=>grind[Rep,G6]
     case hsl k' id off len cap=>
      cases hkk:aA i.size k' with
      |false=>rw[hkk]at h;cases h
      |true=>
       rw[hkk,cond_true]at h;have hk':=nBq hkk;subst hk';simp only[Rep]at hx;obtain⟨_,hx⟩:=hx;unfold D1 at hx;split at h
       ·rename_i T cs ho;cases hc:(aA T e&&aA off 0&&aA (len*i.size) (N cs))with
        |false=>rw[hc]at h;cases h
        |true=>
         rw[hc,cond_true]at h;simp only[iS,iP]at h;obtain⟨rfl,rfl,rfl⟩:=h;simp only[bAt]at hc;have hTq:=nBq hc.1.1;have hoff:=nBq hc.1.2;have hln:=nBq hc.2;subst hTq;subst hoff;have hr1:=Hi hs.1;have hr2:=Hi hs.2.1;rw[ho]at hx;obtain⟨_,hx⟩:=hx;obtain⟨bb,c,hb,rfl,hlc,_,hop⟩:=hx<|λ_=>⟨rfl,hln⟩;obtain⟨hcm,hcb⟩:=hop rfl;obtain⟨vs,rest,fr,hcell,hvl,hfr⟩:=hh.obj id _ bb ho hb;obtain rfl:=hfr hTe;rw[Jh hTe]at hcell;have hvlen:=hvl.length;have hbsz:Dj w bb=N (vs++rest):=by grind[Dj]
         have hlt2:N cs<N (cs++ys):=by rw[lAp];have:1≤m*i.size:=Nat.mul_le_mul hmpos hk1;omega
         by_cases hroom:len+m≤c
         ·have hfit:len*i.size+N us≤N (vs++rest):=by rw[←hbsz,←hcb,hlen,←bE];exact aS _ hroom
          have hrun:=run_append_room (P:=P) w t ty T i hu hi bb len c (vs++rest).toArray hcell ad m cc us hlen hcells hone hroom Y;have hrow:(vs++rest).toArray.toList.take (len*i.size)++us++(vs++rest).toArray.toList.drop (len*i.size+N us)=(vs++us)++rest.drop (N us):=by simp_all[List.drop_append]
          rw[hrow]at hrun;have hlow:=hh.low bb<|mGe hb;have hoe:Bi bs bs w (w.setRow bb ((vs++us)++rest.drop (N us)).toArray) id (.cells T cs true) (.cells T (cs++ys) true):=.inr ⟨T,_,Z,.inl hlt2⟩;have hext:=Ext.upd (w':=w.setRow bb ((vs++us)++rest.drop (N us)).toArray) hh.nodup ho hb B4 (λk hk=>setRow_other w bb k _ hk) hoe;refine⟨_,_,bs,hrun,?_,Ae.upd hh ho hb (Gq w _ hlow.1) B4 (λk hk=>setRow_other w bb k _ hk) hoe ⟨vs++us,rest.drop<|N us,(0,0),by grind[Jh,setRow_heap],Ab.ext hext _ _<|hvl.append hl,λ_=>rfl⟩,hext⟩;simp only[Rep,D1];have hid:=(aC.1 ho).1;rw[bD hid];refine⟨⟨_,c,hroom,Z⟩,?_,λ_=>⟨bb,c,hb,Z,hroom,B4,λ_=>⟨hcm,?_⟩⟩⟩;·grind
          ·unfold Dj;rw[setRow_heap w bb _ _ T (0,0) hcell];grind
         ·have hg:=grownCap_ge w (len+m) c T;have hgm:=grownCap_le_maxLen w (len+m) c T (by grind[maxLen])
          have hrun:=run_append_grow (P:=P) w t ty T i z hu hi hz ⟨bb,0,none⟩ len c vs Y (λj v hj=>by
           rw[Addr.add_at,cell_of_row w bb _ _ T (0,0) hcell]
           grind) ad m cc us hlen hcells Y Y (growslice_fits Y Y)
          obtain⟨hdr,hde⟩:=hh.drew;have hmv:=AD (W0:=W0) hdr hTe ho hlt2 (vs++us) (aJ z.cells<|grownCap w (len+m) c T-(len+m)).toList<|Ab.ext hde _ _<|hvl.append hl;have harr:(vs.toArray++us.toArray++aJ z.cells (grownCap w (len+m) c T-(len+m)))=((vs++us)++(aJ z.cells<|grownCap w (len+m) c T-(len+m)).toList).toArray:=by grind
          rw[harr]at hrun;refine⟨_,_,_,hrun,?_,hmv.1,hde.trans hmv.2⟩;simp only[Rep,D1];have hid:=(aC.1 ho).1;rw[bD hid];refine⟨⟨_,_,hg,Z⟩,?_,λ_=>⟨w.heap.size,_,?_,Z,hg,B4,λ_=>⟨hgm,?_⟩⟩⟩;·grind
          ·simp_all
          ·unfold Dj;have:(w.drew.alloc<|.cells ((vs++us)++(aJ z.cells<|grownCap w (len+m) c T-(len+m)).toList).toArray T).heap[w.heap.size]?=some (.cells ((vs++us)++(aJ z.cells<|grownCap w (len+m) c T-(len+m)).toList).toArray T):=heap_alloc_new w.drew _;rw[this];simp only[List.size_toArray,lAp,cA,Jp,hzsz];rw[hvlen,←hln,hlen,←bE,←bE];grind
       ·rename_i T cs ho;cases cap with
        |none=>cases h
        |some c'=>
         simp only at h;cases hcl:aA c' len with
         |false=>rw[hcl]at h;cases h
         |true=>
          rw[hcl,cond_true]at h;have:=nBq hcl;subst this;simp only[iS,iP]at h;obtain⟨rfl,rfl,rfl⟩:=h;have hr1:=Hi hs.1;have hr2:=Hi hs.2.1;rw[ho]at hx;obtain⟨hle,hx⟩:=hx;obtain⟨bb,c,hb,rfl,hlc,hceq,_⟩:=hx B4;have:=hceq c' Z;subst this;obtain⟨vs,rest,fr,hcell,hvl,_⟩:=hh.obj id _ bb ho hb;have hvlen:=hvl.length;have hg:=grownCap_ge w (c+m) c e;have hgm:=grownCap_le_maxLen w (c+m) c e (by grind[maxLen]);have hol:N ((vs.drop off).take<|c*i.size)=c*i.size:=by grind
          have hrun:=run_append_grow (P:=P) w t ty e i z hu hi hz ⟨bb,off,none⟩ c c ((vs.drop off).take (c*i.size)) hol (λj v hj=>by
           rw[Addr.add_at,cell_of_row w bb _ _ T fr hcell]
           grind) ad m cc us hlen hcells Y Y (growslice_fits Y Y)
          obtain⟨hdr,hde⟩:=hh.drew;have hnew:Ab F bs H w ((cs.drop off).take (c*i.size)++ys) ((vs.drop off).take (c*i.size)++us):=((hvl.drop off).take _).append hl
          obtain⟨h1,h2,h3⟩:=Xy (W0:=W0) hdr e i.size (c+m) (grownCap w (c+m) c e) hTe (aJ z.cells (grownCap w (c+m) c e-(c+m))).toList (Ab.ext hde _ _ hnew) (by grind) (by
           simp only[cA,Jp,hzsz,lAp,hol,hlen]
           rw[←bE,←bE];grind) hg hgm
          refine⟨_,_,_,?_,h1,h2,hde.trans h3⟩;rw[hrun];congr 3;apply dU;simp
       ·cases h
def Su (P:Program)(t:TypeId)(i:Nat):Option (Nat×Nat):=
 match P.underlying t with
 |some (.array _ e)=>match P.info? e with
  |some ie=>some (i*ie.size,ie.size)|none=>none
 |some (.struct fields)=>match fields.toList.mapM (λf=>(P.info? f.type).map λi=>(f.offset,i.size))with
  |some places=>places[i]?|none=>none
 |_=>none
theorem OG {P:Program}{w:World}{bs:List Nat}{H:Hz}{t:TypeId}{zs:List AVal}(hz:Ez P t=some zs){ps:Array (Nat×Value)}{qs:List (Nat×Nat×AVal)}{r:List AVal}
 (hp:∀(j:Nat) (p:Nat×Value),ps.toList[j]?=some p→∃q:Nat×Nat×AVal,qs[j]?=some q∧Su P t p.1=some (q.1,q.2.1)∧Rep F bs H w q.2.2 p.2) (hn:N qs=N ps.toList)
 (hkind:(∃fs,P.underlying t=some (.struct fs)∧(fs.toList.mapM<|λf=>(P.info? f.type).map λi=>(f.offset,i.size)).isSome=true)∨(∃n e,P.underlying t=some (.array n e)∧(P.info? e).isSome=true))
 (h:Vj zs qs=some r):∃cv,(Instr.build t ps).run P w= .ok cv w∧Rep F bs H w (.agg r) cv:=by
 unfold Ez at hz;split at hz
 ·rename_i it hit;split at hz
  ·rename_i z hzz;have hl:Ab F bs H w zs z.cells.toList:=K5 (λv _ a ha=>Rep.const 3 v a ha) hz;have fin:∀place:Nat→Option (Nat×Nat),(∀i,place i=Su P t i)→(∀cells,bZ place z.cells ps.toList=some cells→P.built t ps.toList=some cells)→
    ∃cv,(Instr.build t ps).run P w= .ok cv w∧Rep F bs H w (.agg r) cv:=by
    intro place hpl hb;obtain⟨cells,hf,hr⟩:=CU (place:=place) (cells:=z.cells) hl (λj p hj=>by grind) hn h;refine⟨.agg cells,run_build w t ps cells<|hb cells hf,?_⟩;grind[Rep]
   rcases hkind with⟨fs,hu,hm⟩|⟨n,e,hu,hm⟩;·obtain⟨places,hpl⟩:=cO.1 hm;simp_all[Su,Program.built]
   ·obtain⟨ie,hie⟩:=cO.1 hm;simp_all[Su,Program.built]
  ·cases hz
 ·cases hz
def Iq (zs:List AVal)(n:Nat):List AVal:=(List.range n).map λj=>zs.getD (j%N zs) .nilIf
theorem Ab.of_get {bs:List Nat}{H:Hz}{w:World}:∀{az:List AVal}{vs:List Value},N vs=N az→(∀(j:Nat) (a:AVal) (v:Value),az[j]?=some a→vs[j]?=some v→Rep F bs H w a v)→Ab F bs H w az vs
 | [],vs,hl,_=>by simp only[Ab];exact bF hl|a::az,[],hl,_=>by simp at hl|a::az,v::vs,hl,h=>by simp only[Ab];exact⟨v,vs,Z,h 0 a v Z Z,Ab.of_get (by simpa using hl)<|λj a v h1 h2=>h (j+1) a v h1 h2⟩
theorem BF {bs:List Nat}{H:Hz}{w:World}{zs:List AVal}{z:Array Value}(hl:Ab F bs H w zs z.toList)(hz:0<z.size)(n:Nat):Ab F bs H w (Iq zs n) ((bV n).map (z[· %z.size]!)).toList:=by
 have hlen:=hl.length;have hlen':z.size=N zs:=Y;refine Ab.of_get (by simp[Iq])<|λj a v ha hv=>?_;simp only[Iq,List.getElem?_map]at ha;simp only[Array.toList_map,dL,List.getElem?_map]at hv;by_cases hj:j<n
 ·rw[List.getElem?_range hj]at ha hv;simp only[bQ,iS]at ha hv;subst ha;subst hv;have hm:j%z.size<z.size:=Nat.mod_lt _ hz;have hm':j%N zs<N zs:=by grind
  rw[getElem!_pos z _ hm];have hget:zs[j%N zs]?=some (zs.getD (j%N zs) .nilIf):=by grind
  obtain⟨u,hu,hr⟩:=hl.get hget;grind
 grind
theorem AJ (off:Nat):∀(l:List<|Value×Nat) (c:Array Value),(l.foldl (λcs x=>cs.setIfInBounds (off+x.2) x.1) c).size=c.size
 | [],c=>rfl|x::l,c=>by rw[List.foldl_cons,AJ off l];simp
theorem Z9 (place:Nat→Option (Nat×Nat)):∀(ps:List<|Nat×Value) (c c':Array Value),bZ place c ps=some c'→c'.size=c.size
 | [],c,c',h=>by grind[bZ]
 |(j,v)::ps,c,c',h=>by
  simp only[bZ]at h;split at h;·cases h
  ·split at h;·cases h
   ·rw[Z9 place ps _ _ h,←dJ];exact AJ _ _ _
theorem HV {P:Program}{W0 w:World}{bs:List Nat}{H:Hz}(hh:Ae W0 F bs H w){t e:TypeId}{k by':Nat}(ht:Gn P t=some (e,k,by')){zs:List AVal}(hz:Ez P e=some zs){len:Nat}(hlen:len*k≤16777216){ps:Array (Nat×Value)}{qs:List (Nat×Nat×AVal)}{r:List AVal}
 (hp:∀(j:Nat) (p:Nat×Value),ps.toList[j]?=some p→∃q:Nat×Nat×AVal,qs[j]?=some q∧(p.1*k,k)=(q.1,q.2.1)∧Rep F bs H w q.2.2 p.2) (hn:N qs=N ps.toList)
 (h:Vj (Iq zs<|len*k) qs=some r):
 ∃cv w' bs',(Instr.buildSlice t len ps).run P w= .ok cv w'∧Rep F bs' (H++[.cells e r false]) w' (.hsl k (N H) 0 len<|some len) cv∧Ae W0 F bs' (H++[.cells e r false]) w'∧Ext bs H w bs' (H++[.cells e r false]) w':=by
 obtain⟨hu,hk1,i,z,hi,hzz,hisz,hiby,hzsz⟩:=Kv ht;subst hisz;have hsz:(sizeOf e).run P w= .ok i.size w:=PS;have hl:Ab F bs H w zs z.cells.toList:=by grind[Ez,K5,Rep.const]
 have hzr:(zeroValue e).run P w= .ok z w:=UB;have start:∃z0:Array Value,((if len*i.size=0 then pure #[]else do pure (←zeroValue e).cells:Sem<|Array Value).run P w= .ok z0 w)∧Ab F bs H w (Iq zs<|len*i.size) ((bV<|len*i.size).map (z0[· %z0.size]!)).toList:=by
  by_cases h0:len*i.size=0;·simp_all[Iq,Ab]
  ·exact⟨z.cells,by simp[h0,hzr],BF hl Y _⟩
 obtain⟨z0,hz0,hrow⟩:=start;obtain⟨cells',hf,hr⟩:=CU (place:=λj=>some (j*i.size,i.size)) (cells:=(bV<|len*i.size).map (z0[· %z0.size]!)) hrow (λj p hj=>by grind) hn h;obtain⟨h1,h2,h3⟩:=Py hh e hr;rw[aW]at h1 h2 h3;have hrl:cells'.size=len*i.size:=by rw[Z9 _ _ _ _ hf];simp
 refine⟨.slice (some ⟨w.heap.size,0,none⟩) len len,w.alloc<|.cells cells' e,_,?_,?_,h2,h3⟩;·simp only[Instr.buildSlice,sRb,A9 w hu,rAo,hsz];rw[if_neg Y];by_cases h0:len*i.size=0;all_goals simp_all[newRow]
 ·simp only[Rep,D1,aD];have:=hr.length;refine⟨⟨_,len,bC _,Z⟩,by grind,λ_=>⟨w.heap.size,len,IX,rfl,bC _,λc' h=>by injection h,B4⟩⟩
theorem NL {P:Program}{W0 w:World}{bs:List Nat}{H:Hz}(hh:Ae W0 F bs H w){t:TypeId}(hu:P.underlying t=some .string){s:Bz}:
 ∃cv w' bs',(Instr.range t<|.string ⟨s.toArray⟩).run P w= .ok cv w'∧Rep F bs' (H++[.iter s 0]) w' (.ptr (N H) 0) cv∧Ae W0 F bs' (H++[.iter s 0]) w'∧Ext bs H w bs' (H++[.iter s 0]) w':=by
 have he:=Ext.alloc hh.len (λb hb=>(hh.low b hb).2) (.stringIter ⟨s.toArray⟩ 0)<|.iter s 0;refine⟨.pointer<|some ⟨w.heap.size,0,none⟩,w.alloc<|.stringIter ⟨s.toArray⟩ 0,_,by simp[Instr.range,A9 w hu],?_,hh.alloc _ _<|heap_alloc_new w _,he⟩;simp only[Rep,Fe,aD];exact⟨⟨_,Z⟩,w.heap.size,IX,Z⟩
def L2 (s:Bz)(pos:Nat):Nat×Nat:=Utf8.decode ⟨s.toArray⟩ pos
def Wt (H:Hz):AVal→Option (AVal×Hz)
 |.ptr id off=>cond (aA off 0) (match H[id]? with
  |some (.iter s pos)=>some (cond (bB pos (N s))
   (.tup [.bool true,.int .i64 (pos:Nat),.int .i32 ((L2 s pos).1:Nat)],H.set id<|.iter s<|pos+(L2 s pos).2)
   (.tup [.bool false],H))
  |_=>none) none
 |_=>none
theorem Sz {B:Nat}(w:World){b:Nat}(o:Obj)(h:B≤b):Below B w {w with heap:=w.heap.setIfInBounds b o}:=⟨rfl,rfl,rfl,B4,λk hk=>by grind⟩
theorem UT {P:Program}{W0 w:World}{bs:List Nat}{H H':Hz}(hh:Ae W0 F bs H w){T:TypeId}{p v:AVal}{cp:Value}(hp:Rep F bs H w p cp)(h:Wt H p=some (v,H')):
 ∃cv w',(dV cp true T).run P w= .ok cv w'∧Rep F bs H' w' v cv∧Ae W0 F bs H' w'∧Ext bs H w bs H' w':=by
 cases p<;>simp only[Wt]at h<;>try (cases h;done)
 case ptr id off=>
  cases h0:aA off 0 with
  |false=>rw[h0]at h;cases h
  |true=>
   have:=nBq h0;subst this;rw[h0,cond_true]at h;simp only[Rep]at hp;obtain⟨_,hp⟩:=hp;unfold Fe at hp;split at h
   ·rename_i s pos ho;rw[ho]at hp;obtain⟨b,hb,rfl⟩:=hp;have hobj:=hh.obj id _ b ho hb;simp only[Iy]at hobj;have hlow:=hh.low b<|mGe hb;have hsz:(aK s.toArray).size=N s:=IL;have hget:(getObj b).run P w= .ok (.stringIter ⟨s.toArray⟩ pos) w:=by simp[getObj,Sem.run,hobj]
    simp only[iS]at h;cases hlt:bB pos (N s)with
    |false=>
     rw[hlt,cond_false]at h;simp only[iP]at h;obtain⟨rfl,rfl⟩:=h;have hn:¬pos<N s:=λhc=>by grind[bB,Nat.ble_eq_true_of_le]
     refine⟨.tuple #[.bool false],w,?_,?_,hh,Ext.refl _ _ _⟩;·simp only[dV,sRb,hget,rAo,hsz,hn,if_false];rfl
     ·grind[Rep,Ab]
    |true=>
     rw[hlt,cond_true]at h;simp only[iP]at h;obtain⟨rfl,rfl⟩:=h;have hn:pos<N s:=by simp_all
     have hset:(setObj b<|.stringIter ⟨s.toArray⟩<|pos+(L2 s pos).2).run P w= .ok () {w with heap:=w.heap.setIfInBounds b (.stringIter ⟨s.toArray⟩<|pos+(L2 s pos).2)}:=by simp[setObj,Sem.run,hobj]
     have hoe:Bi bs bs w {w with heap:=w.heap.setIfInBounds b (.stringIter ⟨s.toArray⟩<|pos+(L2 s pos).2)} id (.iter s pos) (.iter s<|pos+(L2 s pos).2):=.inr ⟨s,_,Z,Z⟩;have hother:∀k,k≠b→(w.heap.setIfInBounds b<|Obj.stringIter ⟨s.toArray⟩<|pos+(L2 s pos).2)[k]?=w.heap[k]?:=λk hk=>by grind
     have hext:=Ext.upd (w':={w with heap:=w.heap.setIfInBounds b (.stringIter ⟨s.toArray⟩<|pos+(L2 s pos).2)}) hh.nodup ho hb B4 hother hoe;refine⟨.tuple #[.bool true,.int .i64 (pos:Nat),.int .i32 ((L2 s pos).1:Nat)],_,?_,?_,Ae.upd hh ho hb (Sz w _ hlow.1) B4 hother hoe ?_,hext⟩;·simp only[dV,sRb,hget,rAo,hsz,hn,if_true];have:Utf8.decode (aK s.toArray) pos=((L2 s pos).1,(L2 s pos).2):=rfl;rw[this];simp only[hset,rAo];rfl
     ·grind[Rep,Ab]
     ·grind[Iy]
   ·cases h
def bytesOf :List AVal→Option Bz
 | []=>some []
 |.int .u8 n::r=>match bytesOf r with
  |some l=>some (UInt8.ofNat n.toNat::l)|none=>none
 |_::_=>none
theorem Rr {bs:List Nat}{H:Hz}{w:World}:∀{az:List AVal}{vs:List Value}{l:Bz},Ab F bs H w az vs→bytesOf az=some l→∃ns:List Int,vs=ns.map (dM .u8)∧l=ns.map λn=>UInt8.ofNat n.toNat
 | [],_,_,h,hb=>by simp_all[Ab,bytesOf]
 |a::az,_,l,h,hb=>by
  simp only[Ab]at h;obtain⟨u,us,rfl,h1,h2⟩:=h;cases a;case int k n=>
   cases k;case u8=>
    simp only[bytesOf]at hb;cases hr:bytesOf az with
    |none=>rw[hr]at hb;cases hb
    |some l'=>rw[hr]at hb;injection hb with hb;subst hb;obtain⟨ns,rfl,rfl⟩:=Rr h2 hr;simp only[Rep]at h1;subst h1;exact⟨n::ns,Z,Z⟩
   all_goals(simp[bytesOf]at hb)
  all_goals(simp[bytesOf]at hb)
def ab2s (H:Hz)(y:AVal):Option AVal:=
 match Cm 1 H y with
 |some (ys,_)=>match bytesOf ys with
  |some l=>some (.str l)|none=>none
 |none=>none
theorem ab2s_ok {P:Program}{W0 w:World}{bs:List Nat}{H:Hz}(hh:Ae W0 F bs H w){src dst e:TypeId}(hs:P.underlying src=some (.slice e))(hd:P.underlying dst=some .string)(he:P.underlying e=some (.int .u8)){y v:AVal}{cy:Value}(hy:Rep F bs H w y cy)(h:ab2s H y=some v):
 ∃cv,(convert src dst cy).run P w= .ok cv w∧Rep F bs H w v cv:=by
 unfold ab2s at h;split at h
 ·rename_i ys m hyc;split at h
  ·rename_i l hl;injection h with h;subst h;obtain⟨a,c,us,rfl,hrl,hlen,hnone,hmem⟩:=Ub hh hy hyc;obtain⟨ns,rfl,rfl⟩:=Rr hrl hl;have hconv:∀r,(dO<|.slice a m c).run P w= .ok r w→(convert src dst (.slice a m c)).run P w= .ok r w:=by simp_all[convert,A9]
   cases a with|none=>have:=hnone Z;subst this;have:ns=[]:=bF (by grind);subst this;exact⟨.string .empty,hconv _ (by simp[dO]),by simp only[Rep];rfl⟩|some ad=>have hm:=hmem ad Z;have hll:N (ns.map<|dM .u8)=m:=Y;have hld:=run_loadCells_list (P:=P) w ad (ns.map<|dM .u8) hm;rw[hll]at hld;have:=run_bytesToString (P:=P) w ad m c ns hld;rw[foldl_push_bytes]at this;refine⟨_,hconv _ this,?_⟩;simp only[Rep];have h0:ByteArray.empty.data= #[]:=rfl;rw[h0,Array.empty_append]
  ·cases h
 ·cases h
theorem IE (w:World)(c:Array Value)(e:TypeId)(n:Nat):(w.alloc<|.cells c e).freeze ⟨w.heap.size,n,none⟩ 1=w.alloc (.cells c e (n,n+1)):=by unfold World.freeze World.alloc;simp only[Nat.one_ne_zero,if_false];congr 1;grind
theorem as2b_ok {P:Program}{W0 w:World}{bs:List Nat}{H:Hz}(hh:Ae W0 F bs H w){src dst e:TypeId}(hs:P.underlying src=some .string)(hd:P.underlying dst=some (.slice e))(he:P.underlying e=some (.int .u8))(s:Bz):
 ∃cv w' bs',(convert src dst (.string ⟨s.toArray⟩)).run P w= .ok cv w'∧Rep F bs' (H++[.cells e (s.map λb=>.int .u8 (b.toNat:Nat)) false]) w' (.hsl 1 (N H) 0 (N s) none) cv∧
  Ae W0 F bs' (H++[.cells e (s.map λb=>.int .u8 (b.toNat:Nat)) false]) w'∧Ext bs H w bs' (H++[.cells e (s.map λb=>.int .u8 (b.toNat:Nat)) false]) w':=by
 obtain⟨hdr,hde⟩:=hh.drew;have hsz:(aK s.toArray).size=N s:=IL;generalize hcap:(Question.appendCap (N s) 0 e).cut (w.tape w.drawn<|.appendCap (N s) 0 e)=cap;have hle:N s≤cap:=by grind[Question.cut]
 let vs:List Value:=s.map λb=>.int .u8 b.toNat;let rest:List Value:=List.replicate (cap-N s)<|.int .u8 0;have harr:((aK s.toArray).data.map (λb=>dM .u8 b.toNat)++Array.replicate (cap-N s) (.int .u8 0))=(vs++rest).toArray:=by grind
 have hl:∀{bs:List Nat}{H:Hz}{w:World},Ab F bs H w (s.map λb=>AVal.int .u8 (b.toNat:Nat)) vs:=by grind[Ab.of_get,Rep]
 have hext:=Ext.alloc hdr.len (λb hb=>(hdr.low b hb).2) (.cells (vs++rest).toArray e (N<|vs++rest,N (vs++rest)+1))<|.cells e (s.map λb=>AVal.int .u8 (b.toNat:Nat)) false;refine⟨.slice (some ⟨w.heap.size,0,none⟩) (N s) cap,w.drew.alloc<|.cells (vs++rest).toArray e (N<|vs++rest,N (vs++rest)+1),bs++[w.heap.size],?_,?_,?_,hde.trans hext⟩
 ·have hfr:=IE w.drew (vs++rest).toArray e<|N<|vs++rest;have hshape:(w.drew.alloc<|.cells (vs++rest).toArray e).shape? w.heap.size=some (e,N<|vs++rest):=by unfold World.shape?;have:(w.drew.alloc<|.cells (vs++rest).toArray e).heap[w.heap.size]?=some (.cells (vs++rest).toArray e):=heap_alloc_new w.drew _;grind
  simp only[convert,sRb,A9 w hs,A9 w hd,rAo,A9 w he,Conv.stringToBytes,run_choose,Question.forced,bFt,if_false,hsz,hcap,newRow,run_newObj,harr];simp only[markStringish,sRb,run_shape];have h1:({{w with drawn:=w.drawn+1}with heap:=w.heap.push (Obj.cells (vs++rest).toArray e)}:World)=w.drew.alloc (.cells (vs++rest).toArray e):=Z;simp_all
 ·simp only[Rep,D1,aD];exact⟨⟨_,cap,hle,Z⟩,B4,λ_=>⟨w.heap.size,cap,IX,Z,hle,B4,B4⟩⟩
 ·exact hdr.alloc _ _ ⟨vs,rest,_,heap_alloc_new w.drew _,hl,λj hj hc=>by grind⟩
inductive EP where
 |b|i|s|nil|cons (off n:Nat) (agg:Bool) (f r:EP)
def aeq :EP→AVal→AVal→Option Bool
 |.b,.bool a,.bool c=>some (a==c)|.i,.int k a,.int j c=>cond (Ws k j) (some<|a==c) none|.s,.str a,.str c=>some (a==c)|.nil,.agg _,.agg _=>some true
 |.cons off n g f r,x,y=>match Jb n g off x with
  |some a=>match Jb n g off y with
   |some c=>match aeq f a c with
    |some b=>match aeq r x y with
     |some c=>some (b&&c)|none=>none
    |none=>none
   |none=>none
  |none=>none
 |_,_,_=>none
def Uy (k:Nat)(g:Bool)(f:EP):Nat→Nat→EP
 |_,0=>.nil|i,m+1=>.cons (i*k) k g f<|Uy k g f (i+1) m
mutual
def Yl (P : Program) : Nat → TypeId → Option EP
  | 0, _ => none
  | d + 1, t => match P.underlying t with
    | some .bool => some .b
    | some (.int _) => some .i
    | some .string => some .s
    | some (.struct fields) => cond (P.stoodInHeld t) none (H5 P d fields.toList)
    | some (.array n e) => match Po P e with
      | some (k, g) => match Yl P d e with
        | some f => some (Uy k g f 0 n)
        | none => none
      | none => none
    | _ => none
def H5 (P : Program) : Nat → List Field → Option EP
  | 0, _ => none
  | _ + 1, [] => some .nil
  | d + 1, f :: fs => if f.name = "_" then none else match Po P f.type with
    | some (n, g) => match Yl P d f.type with
      | some e => match H5 P d fs with
        | some r => some (.cons f.offset n g e r)
        | none => none
      | none => none
    | none => none
end
section
variable {P : Program} {w : World} {bs : List Nat} {H : Hz}
theorem Rz {t:TypeId}{n off:Nat}{g:Bool}(ht:Po P t=some (n,g)){xs:List AVal}{us:List Value}(hx:Ab F bs H w xs us){a:AVal}(h:Jb n g off (.agg xs)=some a):
 ∃ca,(part t us.toArray off).run P w= .ok ca w∧Rep F bs H w a ca:=by
 obtain⟨h1,h2⟩:=Si w ht;cases g with
 |true=>
  simp only[Jb,iS]at h;subst h;refine⟨.agg<|us.toArray.extract off<|off+n,?_,?_⟩;·simp[part,h1,h2]
  ·simp only[Rep];refine⟨(us.drop off).take n,?_,(hx.drop off).take n⟩;grind
 |false=>
  simp only[Jb]at h;split at h
  ·rename_i c rest hc;injection h with h;subst h;have hget:xs[off]?=some c:=by have:=congrArg (λl=>l[0]?) hc;grind
   obtain⟨u,hu,hr⟩:=hx.get hget;simp_all[part]
  ·cases h
def EP.chain :EP→Bool
 |.nil=>true|.cons _ _ _ _ _=>true|_=>false
theorem Ot {d:Nat}{fs:List Field}{e:EP}(h:H5 P d fs=some e):e.chain=true:=by
 cases d with
 |zero=>simp only[H5]at h;cases h
 |succ d=>
  cases fs with
  |nil=>simp only[H5]at h;injection h with h;subst h;rfl
  |cons f fs=>
   simp only[H5]at h;repeat' (split at h)
   all_goals first
    |(cases h;done)
    |(injection h with h;subst h;rfl)
theorem Y0 {n off:Nat}{g:Bool}{x a:AVal}(h:Jb n g off x=some a):∃xs,x= .agg xs:=by cases x<;>simp only[Jb,reduceCtorEq]at h;grind
theorem CG {e:EP}(he:e.chain=true){x y:AVal}{r:Bool}(h:aeq e x y=some r):∃xs ys,x= .agg xs∧y= .agg ys:=by
 cases e with
 |nil=>cases x<;>cases y<;>simp only[aeq,reduceCtorEq]at h;exact⟨_,_,rfl,rfl⟩
 |cons off n g f r1=>
  simp only[aeq]at h;split at h;·grind[Y0]
  ·cases h
 |_=>cases he
theorem V0 {k:Nat}{g:Bool}{f:EP}:∀{i m:Nat},(Uy k g f i m).chain=true
 |_,0=>rfl|_,_+1=>rfl
theorem Yc {d:Nat}{e:TypeId}{n:Nat}{g:Bool}{f:EP}(ht:Po P e=some (n,g))(hrec:∀(x y:AVal) (cx cy:Value) (r:Bool),Rep F bs H w x cx→Rep F bs H w y cy→aeq f x y=some r→(aB d e cx cy).run P w= .ok r w)
 {xs ys:List AVal}{us vs:List Value} (hx:Ab F bs H w xs us) (hy:Ab F bs H w ys vs):∀(m i:Nat) (r:Bool),aeq (Uy n g f i m) (.agg xs) (.agg ys)=some r→(Op.eqItems d e n us.toArray vs.toArray<|List.range' i m).run P w= .ok r w
 |0,i,r,h=>by simp_all[Uy,aeq,Op.eqItems]
 |m+1,i,r,he=>by
  simp only[Uy,aeq]at he;split at he
  ·rename_i a ha;split at he
   ·rename_i c hc;obtain⟨ca,p1,p2⟩:=Rz ht hx ha;obtain⟨cc,q1,q2⟩:=Rz ht hy hc;split at he
    ·rename_i b hb;split at he;·rename_i b2 hb2;injection he with he;subst he;simp only[List.range'_succ,Op.eqItems,sRb,p1,q1,rAo,hrec a c ca cc b p2 q2 hb];cases b with|true=>simp only[Bool.not_true,bFt,if_false];exact Yc ht hrec hx hy m (i+1) _ hb2|false=>simp
     ·cases he
    ·cases he
   ·cases he
  ·cases he
mutual
theorem RU : ∀ (d : Nat) (t : TypeId) (e : EP), Yl P d t = some e → ∀ (k : Nat) (x y : AVal) (cx cy : Value) (r : Bool), Rep F bs H w x cx → Rep F bs H w y cy → aeq e x y = some r → (Op.equalIn (d + k) t cx cy).run P w = .ok r w
  | 0, _, _, h, _, _, _, _, _, _, _, _, _ => by grind [Yl]
  | d + 1, t, e, h, k, x, y, cx, cy, r, hx, hy, he => by
    simp only [Yl] at h
    rw [show d + 1 + k = (d + k) + 1 by omega]
    split at h
    · rename_i hu
      injection h with h; subst h
      cases x <;> cases y <;> simp only [aeq, iS, reduceCtorEq] at he
      grind [Rep, run_equalIn_bool']
    · rename_i k0 hu
      injection h with h; subst h
      cases x <;> cases y <;> simp only [aeq, reduceCtorEq] at he
      rename_i k1 a k2 c
      cases hk : Ws k1 k2 with
      | false => rw [hk] at he; cases he
      | true =>
        rw [hk, cond_true] at he
        injection he with he; subst he
        have := BU hk; subst this
        simp only [Rep] at hx hy
        subst hx; subst hy
        exact run_equalIn_int w (d + k) t _ _ _ _ hu
    · rename_i hu
      injection h with h; subst h
      cases x <;> cases y <;> simp only [aeq, iS, reduceCtorEq] at he
      grind [Rep, run_equalIn_string, ByteArray.toList_mk]
    · rename_i fields hu
      cases hst : P.stoodInHeld t with
      | true => rw [hst] at h; cases h
      | false =>
        rw [hst, cond_false] at h
        have hfl : P.fieldsOf t = fields := by simp [Program.fieldsOf, hu]
        obtain ⟨xs, ys, rfl, rfl⟩ := CG (Ot h) he
        simp only [Rep] at hx hy
        obtain ⟨us, rfl, hx⟩ := hx
        obtain ⟨vs, rfl, hy⟩ := hy
        rw [run_equalIn_agg w (d + k) t us.toArray vs.toArray (by grind) hst, hfl]
        exact PX d fields.toList e h k xs ys us vs r hx hy he
    · rename_i n e' hu
      split at h
      · rename_i k' g ht
        split at h
        · rename_i f hf
          injection h with h; subst h
          obtain ⟨xs, ys, rfl, rfl⟩ := CG V0 he
          simp only [Rep] at hx hy
          obtain ⟨us, rfl, hx⟩ := hx
          obtain ⟨vs, rfl, hy⟩ := hy
          obtain ⟨ie, hie, hsz⟩ : ∃ i, P.info? e' = some i ∧ i.size = k' := by
            grind [Po]
          have hco : P.cellsOf e' = k' := by grind [Program.cellsOf]
          rw [run_equalIn_array w (d + k) us.toArray vs.toArray hu hie, hco, List.range_eq_range']
          exact Yc ht (fun x y cx cy r h1 h2 h3 => RU d e' f hf k x y cx cy r h1 h2 h3) hx hy n 0 r he
        · cases h
      · cases h
    · cases h
theorem PX : ∀ (d : Nat) (fs : List Field) (e : EP), H5 P d fs = some e → ∀ (k : Nat) (xs ys : List AVal) (us vs : List Value) (r : Bool), Ab F bs H w xs us → Ab F bs H w ys vs → aeq e (.agg xs) (.agg ys) = some r → (Op.eqFields (d + k) us.toArray vs.toArray fs).run P w = .ok r w
  | 0, _, _, h, _, _, _, _, _, _, _, _, _ => by grind [H5]
  | d + 1, [], e, h, k, xs, ys, us, vs, r, hx, hy, he => by
    simp only [H5] at h
    injection h with h; subst h
    simp only [aeq, iS] at he
    subst he
    rfl
  | d + 1, f :: fs, e, h, k, xs, ys, us, vs, r, hx, hy, he => by
    simp only [H5] at h
    split at h
    · cases h
    · rename_i hn
      split at h
      · rename_i n g ht
        split at h
        · rename_i e1 h1
          split at h
          · rename_i r1 h2
            injection h with h; subst h
            simp only [aeq] at he
            split at he
            · rename_i a ha
              split at he
              · rename_i c hc
                obtain ⟨ca, p1, p2⟩ := Rz ht hx ha
                obtain ⟨cc, q1, q2⟩ := Rz ht hy hc
                have hrec : ∀ b, aeq e1 a c = some b → (Op.equalIn (d + 1 + k) f.type ca cc).run P w = .ok b w := fun b hb => by
                  rw [show d + 1 + k = d + (1 + k) by omega]
                  exact RU d f.type e1 h1 (1 + k) a c ca cc b p2 q2 hb
                have hf : f.name ≠ "_" := hn
                simp only [Op.eqFields, if_pos hf, sRb, p1, q1, rAo]
                split at he
                · rename_i b hb
                  split at he
                  · rename_i b2 hb2
                    injection he with he; subst he
                    cases b with
                    | true =>
                      rw [hrec _ hb]
                      simp only [rAo, Bool.not_true, bFt, if_false]
                      rw [show d + 1 + k = d + (1 + k) by omega]
                      exact PX d fs r1 h2 (1 + k) xs ys us vs _ hx hy hb2
                    | false =>
                      rw [hrec _ hb]
                      simp
                  · cases he
                · cases he
              · cases he
            · cases he
          · cases h
        · cases h
      · cases h
end
def isSA (P:Program)(t:TypeId):Bool:=match P.underlying t with|some (.struct _)=>true|some (.array _ _)=>true|_=>false
theorem IF {d:Nat}{t:TypeId}{e:EP}(hu:isSA P t=true)(h:Yl P d t=some e):e.chain=true:=by
 cases d with
 |zero=>simp only[Yl]at h;cases h
 |succ d=>
  unfold isSA at hu;split at hu
  ·rename_i fs hu';simp only[Yl,hu']at h;cases hst:P.stoodInHeld t with
   |true=>rw[hst]at h;cases h
   |false=>rw[hst,cond_false]at h;exact Ot h
  ·grind[Yl,V0]
  ·cases hu
theorem eqs_ok {op:BinOp}{t:TypeId}{e:EP}(hu:isSA P t=true)(hgd:P.eqGuardType P.depth t=false)(h:Yl P 100 t=some e){neg:Bool}(hop:(op= .eql∧neg=false)∨(op= .neq∧neg=true))
 {x y:AVal}{cx cy:Value}{ox oy:Operand}{r:Bool} (hx:Rep F bs H w x cx) (hy:Rep F bs H w y cy) (he:aeq e x y=some r):
 (do eqGuard op t ox oy cx cy;binOp op t cx cy:Sem Value).run P w= .ok (.bool<|cond neg (not r) r) w:=by
 obtain⟨xs,ys,rfl,rfl⟩:=CG (IF hu h) he;have hx':=hx;have hy':=hy;simp only[Rep]at hx' hy';obtain⟨us,rfl,_⟩:=hx';obtain⟨vs,rfl,_⟩:=hy';have h1:=RU 100 t e h 9900 _ _ _ _ r hx hy he;grind[cG,run_eqGuard_agg,bG,run_eql_struct,run_neq_struct]
theorem Zu {t:TypeId}{n off:Nat}{g:Bool}(ht:Po P t=some (n,g)){x a:AVal}{cx:Value}(hx:Rep F bs H w x cx)(h:Jb n g off x=some a):
 ∃us ca,cx= .agg us∧(part t us off).run P w= .ok ca w∧Rep F bs H w a ca:=by
 grind[Y0,Rep,Rz]
end
def CJ (H:Hz)(k id off len:Nat)(cap:Option Nat)(lo hi:Option Int):Option AV:=
 cond (Lu H id) (match lo with
  |none=>some (.hsl k id off (hi.getD (len:Nat)).toNat cap,[(0,hi.getD (len:Nat)),(hi.getD (len:Nat),(len:Nat))])
  |some l=>match cap with
   |some c=>some (.hsl k id (cond (aA c l.toNat) off (off+l.toNat*k)) ((hi.getD (len:Nat)).toNat-l.toNat) (some (c-l.toNat)),[(0,l),(l,hi.getD (len:Nat)),(hi.getD (len:Nat),(len:Nat))])|none=>none) (match lo with
  |none=>cond (Qf H id (len*k)&&aA off 0) (some (.hsl k id 0 (hi.getD (len:Nat)).toNat none,[(0,hi.getD (len:Nat)),(hi.getD (len:Nat),(len:Nat))])) none|some l=>cond (Qf H id (len*k)&&aA off 0&&bK 1 k) (some (.hsl k id (l.toNat*k) ((hi.getD (len:Nat)).toNat-l.toNat) none,[(1,l),(l,hi.getD (len:Nat)),(hi.getD (len:Nat),(len:Nat))])) none)
theorem JG {P:Program}{w:World}{bs:List Nat}{H:Hz}{k id off len:Nat}{cap:Option Nat}{clo chi:Option Value}{lo hi:Option Int}{t e:TypeId}{v:AVal}{cx:Value}{side:List (Int×Int)}
 (ht:F7 P t=some (e,k)) (hx:Rep F bs H w (.hsl k id off len cap) cx)
 (hlo:(lo=none∧clo=none)∨∃k n,lo=some n∧clo=some (.int k n)) (hhi:(hi=none∧chi=none)∨∃k n,hi=some n∧chi=some (.int k n))
 (h:CJ H k id off len cap lo hi=some (v,side)) (hs:Ah side):
 ∃cv,(aM t cx clo chi none).run P w= .ok cv w∧Rep F bs H w v cv:=by
 obtain⟨hu,hsz⟩:=Gm ht;simp only[Rep]at hx;obtain⟨_,hx⟩:=hx;unfold CJ at h;cases hlv:Lu H id with
 |false=>
  rw[hlv,cond_false]at h;cases lo with
  |some l=>
   simp only at h;cases hgd:(Qf H id (len*k)&&aA off 0&&bK 1 k)with
   |false=>rw[hgd]at h;cases h
   |true=>
    rw[hgd,cond_true]at h;simp only[iS,iP]at h;obtain⟨rfl,rfl⟩:=h;obtain⟨h0,h1,h2,_⟩:=hs;simp only[bAt]at hgd;have hoff:=nBq hgd.1.2;have hk1:=aO hgd.2;subst hoff;have hgg:=hgd.1.1;unfold Qf at hgg;split at hgg
    ·rename_i T cs ho;have hcl:=nBq hgg;unfold D1 at hx;rw[ho]at hx;obtain⟨hle,hx⟩:=hx;obtain⟨b,c,hb,rfl,hlc,hcap,hop⟩:=hx<|λ_=>⟨rfl,hcl.symm⟩;have hr:=Dl (P:=P) (w:=w) true len c hlc hlo hhi (show 0≤(some l).getD 0 by grind) h1 h2;refine⟨.slice (if c=((some l:Option Int).getD 0).toNat then some ⟨b,0,none⟩else(some (⟨b,0,none⟩:Addr)).map (·.add (((some l:Option Int).getD 0).toNat*k))) ((hi.getD (len:Nat)).toNat-((some l:Option Int).getD 0).toNat)<|c-((some l:Option Int).getD 0).toNat,?_,?_⟩;·simp_all[aM,cC,A9]
     ·have hhl:(hi.getD (len:Nat)).toNat≤len:=by omega
      have hll:l.toNat≤(hi.getD (len:Nat)).toNat:=Int.toNat_le_toNat h1;have hmul:(hi.getD (len:Nat)).toNat*k≤len*k:=aS k hhl;have hsplit:((hi.getD (len:Nat)).toNat-l.toNat)*k+l.toNat*k=(hi.getD (len:Nat)).toNat*k:=by rw[←bE,Nat.sub_add_cancel hll]
      have hlc2:(hi.getD (len:Nat)).toNat-l.toNat≤c-l.toNat:=dC (bI hhl hlc) _;have hpos:0<l.toNat*k:=Nat.mul_pos Y hk1<;>grind[Rep,D1]
    ·cases hgg
  |none=>
   simp only at h;cases hgd:(Qf H id (len*k)&&aA off 0)with
   |false=>rw[hgd]at h;cases h
   |true=>
    rw[hgd,cond_true]at h;simp only[iS,iP]at h;obtain⟨rfl,rfl⟩:=h;obtain⟨h1,h2,_⟩:=hs;simp only[bAt]at hgd;have hoff:=nBq hgd.2;subst hoff;have hgg:=hgd.1;unfold Qf at hgg;split at hgg
    ·rename_i T cs ho;have hcl:=nBq hgg;unfold D1 at hx;rw[ho]at hx;obtain⟨hle,hx⟩:=hx;obtain⟨b,c,hb,rfl,hlc,hcap,hop⟩:=hx<|λ_=>⟨rfl,hcl.symm⟩;have hr:=Dl (P:=P) (w:=w) true len c hlc hlo hhi (dS 0) h1 h2;refine⟨.slice (if c=((none:Option Int).getD 0).toNat then some ⟨b,0,none⟩else(some (⟨b,0,none⟩:Addr)).map (·.add (((none:Option Int).getD 0).toNat*k))) ((hi.getD (len:Nat)).toNat-((none:Option Int).getD 0).toNat)<|c-((none:Option Int).getD 0).toNat,?_,?_⟩;·simp_all[aM,cC,A9]
     ·have hhl:(hi.getD (len:Nat)).toNat≤len:=by omega
      have hmul:(hi.getD (len:Nat)).toNat*k≤len*k:=aS k hhl;simp only[cQ,cW,cJ,dP,bQ,Addr.add_at,aZ,ite_self];grind[Rep,D1]
    ·cases hgg
 |true=>
  rw[hlv,cond_true]at h;unfold Lu at hlv;split at hlv
  ·rename_i T cs ho;unfold D1 at hx;rw[ho]at hx;obtain⟨hle,hx⟩:=hx;obtain⟨b,c,hb,rfl,hlc,hcap,_⟩:=hx B4;have hbd:0≤lo.getD 0∧lo.getD 0≤hi.getD (len:Nat)∧hi.getD (len:Nat)≤(len:Nat):=by
    cases lo with
    |none=>simp only[iS,iP]at h;obtain⟨_,rfl⟩:=h;obtain⟨h1,h2,_⟩:=hs;exact⟨dS 0,h1,h2⟩
    |some l=>
     cases cap with
     |none=>cases h
     |some c'=>simp only[iS,iP]at h;obtain⟨_,rfl⟩:=h;obtain⟨h1,h2,h3,_⟩:=hs;exact⟨h1,h2,h3⟩
   have hr:=Dl (P:=P) (w:=w) true len c hlc hlo hhi hbd.1 hbd.2.1 hbd.2.2;refine⟨.slice (if c=(lo.getD 0).toNat then some ⟨b,off,none⟩else(some (⟨b,off,none⟩:Addr)).map (·.add ((lo.getD 0).toNat*k))) ((hi.getD (len:Nat)).toNat-(lo.getD 0).toNat)<|c-(lo.getD 0).toNat,?_,?_⟩;·simp_all[aM,cC,A9]
   ·have hhl:(hi.getD (len:Nat)).toNat≤len:=by omega
    cases lo with
    |none=>simp only[iS,iP]at h;obtain⟨rfl,_⟩:=h;simp only[cQ,cW,cJ,dP,bQ,Addr.add_at,aZ,ite_self];simp only[Rep,D1,ho];have hmul:(hi.getD (len:Nat)).toNat*k≤len*k:=aS k hhl;exact⟨⟨_,_,Y,Z⟩,Y,λ_=>⟨b,c,hb,Z,Y,hcap,B4⟩⟩
    |some l=>
     cases cap with
     |none=>cases h
     |some c'=>
      have hcc:=hcap c' Z;subst hcc;simp only[iS,iP]at h;obtain⟨rfl,_⟩:=h;simp only[Option.getD_some,bQ,Addr.add_at]at hbd⊢;have hll:l.toNat≤(hi.getD (len:Nat)).toNat:=Int.toNat_le_toNat hbd.2.1;have hmul:(hi.getD (len:Nat)).toNat*k≤len*k:=aS k hhl;have hsplit:((hi.getD (len:Nat)).toNat-l.toNat)*k+l.toNat*k=(hi.getD (len:Nat)).toNat*k:=by rw[←bE,Nat.sub_add_cancel hll]
      have hlc2:(hi.getD (len:Nat)).toNat-l.toNat≤c-l.toNat:=dC (bI hhl hlc) _;have hA:off+((hi.getD (len:Nat)).toNat-l.toNat)*k≤N cs:=bI (Nat.add_le_add_left (bI (Nat.le.intro hsplit) hmul) off) hle;have hB:off+l.toNat*k+((hi.getD (len:Nat)).toNat-l.toNat)*k≤N cs:=by omega
      simp only[Rep,D1,ho];cases hc:aA c l.toNat with|true=>have hcl:=nBq hc;rw[if_pos hcl,cond_true];exact⟨⟨_,_,hlc2,Z⟩,hA,λ_=>⟨b,c-l.toNat,hb,Z,hlc2,λc'' h=>by injection h,B4⟩⟩|false=>have hcl:=aL hc;rw[if_neg hcl,cond_false];exact⟨⟨_,_,hlc2,Z⟩,hB,λ_=>⟨b,c-l.toNat,hb,Z,hlc2,λc'' h=>by injection h,B4⟩⟩
  ·cases hlv
def Wg (H:Hz)(n k:Nat)(hi:Option Int)(p:AVal):Option AV:=
 match p with
 |.ptr id off=>match H[id]? with
  |some (.cells _ cs false)=>cond (bK (off+n*k)<|N cs) (some (.hsl k id off (hi.getD (n:Nat)).toNat<|some n,[(0,hi.getD (n:Nat)),(hi.getD (n:Nat),(n:Nat))])) none|_=>none
 |_=>none
theorem IY {P:Program}{w:World}{bs:List Nat}{H:Hz}{n k:Nat}{chi:Option Value}{hi:Option Int}{t:TypeId}{p v:AVal}{cx:Value}{side:List (Int×Int)}
 (ht:Px P t=some (n,k)) (hx:Rep F bs H w p cx) (hhi:(hi=none∧chi=none)∨∃k n,hi=some n∧chi=some (.int k n))
 (h:Wg H n k hi p=some (v,side)) (hs:Ah side):
 ∃cv,(aM t cx none chi none).run P w= .ok cv w∧Rep F bs H w v cv:=by
 obtain⟨e,hu,hsz⟩:=Yh ht;cases p<;>simp only[Wg]at h<;>try (cases h;done)
 case ptr id off=>
 simp only[Rep]at hx;obtain⟨_,hx⟩:=hx;unfold Fe at hx;split at h
 ·rename_i T cs ho;rw[ho]at hx;obtain⟨b,hb,rfl⟩:=hx;cases hl:bK (off+n*k) (N cs)with
  |false=>rw[hl]at h;cases h
  |true=>
   rw[hl,cond_true]at h;simp only[iS,iP]at h;obtain⟨rfl,rfl⟩:=h;obtain⟨h1,h2,_⟩:=hs;have hl:=aO hl;have hr:=Dl (P:=P) (w:=w) (clo:=none) (lo:=none) false n n (bC n) (.inl ⟨Z,Z⟩) hhi (dS 0) h1 h2;have hhl:(hi.getD (n:Nat)).toNat≤n:=by omega
   have hmul:(hi.getD (n:Nat)).toNat*k≤n*k:=aS k hhl;refine⟨.slice (some ⟨b,off,none⟩) (hi.getD (n:Nat)).toNat n,?_,?_⟩;·simp only[aM,aX,sRb,aQ,A9 w hu,rAo,hr,hsz,cQ,cW,cJ,dP,Addr.add_at,aZ,ite_self]
   ·grind[Rep,D1]
 ·cases h
theorem CV {P:Program}{W0 w:World}{bs:List Nat}{H:Hz}(hh:Ae W0 F bs H w){id b off:Nat}{T:TypeId}{cs xs:List AVal}{us:List Value}(ho:H[id]?=some (.cells T cs false))(hb:bs[id]?=some b)
 (hx:Ab F bs H w xs us) (h2:off+N xs≤N cs) (h3:xs.all AVal.one=true):
 ∃w',(storeCells ⟨b,off,none⟩ us).run P w= .ok () w'∧Ae W0 F bs (H.set id<|.cells T (spl cs off xs) false) w'∧Ext bs H w bs (H.set id<|.cells T (spl cs off xs) false) w':=by
 obtain⟨vs,rest,fr,hcell,hl,hfr⟩:=hh.obj id _ b ho hb;have hxl:=hx.length;have hvl:=hl.length;have hst:=Gf (P:=P) b off T fr us 0 (vs++rest).toArray w hcell (N vs) hfr Y B4<|hx.one h3;simp only[aZ]at hst;have hsp:(vs++rest).toArray.toList.take off++us++(vs++rest).toArray.toList.drop (off+N us)=(vs.take off++us++vs.drop (off+N us))++rest:=by grind
 rw[hsp]at hst;have hrow:Ab F bs H w (spl cs off xs) (vs.take off++us++vs.drop (off+N us)):=by rw[spl,cE,hxl];exact(hl.take off).append<|hx.append<|hl.drop _
 have hlen:N (spl cs off xs)=N cs:=by simp[spl];omega
 have hoe:Bi bs bs w (w.setRow b ((vs.take off++us++vs.drop (off+N us))++rest).toArray) id (.cells T cs false) (.cells T (spl cs off xs) false):=.inr ⟨T,_,Z,hlen,Z⟩;have hlow:=hh.low b<|mGe hb;have hext:=Ext.upd (w':=w.setRow b ((vs.take off++us++vs.drop (off+N us))++rest).toArray) hh.nodup ho hb B4 (λk hk=>setRow_other w b k _ hk) hoe;refine⟨_,hst,Ae.upd hh ho hb (Gq w _ hlow.1) B4 (λk hk=>setRow_other w b k _ hk) hoe ?_,hext⟩;refine⟨_,rest,fr,setRow_heap w b _ _ T fr hcell,Ab.ext hext _ _ hrow,λj hj=>hfr j ?_⟩;grind
def CE (H:Hz)(k:Nat)(zs:List AVal)(p:AVal):Option Hz:=
 match p with
 |.hsl k' id off len _=>match H[id]? with
  |some (.cells T cs false)=>cond (aA k k') (cond (aA len 0) (some H)<|cond ((Iq zs<|len*k).all AVal.one) (some<|H.set id<|.cells T (spl cs off<|Iq zs<|len*k) false) none) none|_=>none
 |_=>none
theorem NN {P:Program}{W0 w:World}{bs:List Nat}{H H':Hz}(hh:Ae W0 F bs H w){t e ty:TypeId}{k by':Nat}(ht:Gn P t=some (e,k,by')){zs:List AVal}(hz:Ez P e=some zs){p:AVal}{cx:Value}
 (hx:Rep F bs H w p cx) (h:CE H k zs p=some H'):
 ∃w',(cX #[t] ty #[cx]).run P w= .ok (.tuple #[]) w'∧Ae W0 F bs H' w'∧Ext bs H w bs H' w':=by
 obtain⟨hu,hk1,i,z,hi,hzz,hisz,hiby,hzsz⟩:=Kv ht;subst hisz;have hl:Ab F bs H w zs z.cells.toList:=by grind[Ez,K5,Rep.const]
 have hzr:(zeroValue e).run P w= .ok z w:=UB;cases p<;>simp only[CE]at h<;>try (cases h;done)
 case hsl k' id off len cap=>
 simp only[Rep]at hx;obtain⟨_,hx⟩:=hx;unfold D1 at hx;split at h
 ·rename_i T cs ho;rw[ho]at hx;obtain⟨hle,hx⟩:=hx;obtain⟨b,c,hb,rfl,hlc,hcap,_⟩:=hx B4;cases hk:aA i.size k' with
  |false=>rw[hk]at h;cases h
  |true=>
   have hk:=nBq hk;subst hk;simp only[Nat.beq_refl,cond_true]at h;cases hln:aA len 0 with
   |true=>have:=nBq hln;subst this;simp only[hln,cond_true,iS]at h;subst h;refine⟨w,?_,hh,Ext.refl _ _ _⟩;simp[cX,A9 w hu]
   |false=>
    have hln':=aL hln;rw[hln,cond_false]at h;cases h3:(Iq zs<|len*i.size).all AVal.one with
    |false=>rw[h3]at h;cases h
    |true=>
     rw[h3,cond_true]at h;injection h with h;subst h;have hrow:=BF hl Y<|len*i.size;have hzl:N (Iq zs<|len*i.size)=len*i.size:=by simp[Iq]
     obtain⟨w',hr,h4,h5⟩:=CV (P:=P) hh ho hb hrow (by rw[hzl];exact hle) h3;refine⟨w',?_,h4,h5⟩;obtain⟨m,rfl⟩:∃m,len=m+1:=⟨len-1,Y⟩;have hzc:aJ z.cells (m+1)=(bV<|(m+1)*i.size).map (z.cells[· %z.cells.size]!):=by grind[aJ]
     simp only[cX];simp only[Array.toList_map,dL]at hr;simp[A9 w hu,hzr,hzc,hr]
 ·cases h
theorem TW {P:Program}{W0 w:World}{bs:List Nat}{H:Hz}(hh:Ae W0 F bs H w){t e:TypeId}{k by':Nat}(ht:Gn P t=some (e,k,by')){zs:List AVal}(hz:Ez P e=some zs){j j':IntKind}{n:Int}(h0:0≤n)(hn:n≤1000000)(hby:by'≤1000):
 ∃cv w' bs',(Instr.makeSlice t (.int j n)<|.int j' n).run P w= .ok cv w'∧Rep F bs' (H++[.cells e (Iq zs<|n.toNat*k) false]) w' (.hsl k (N H) 0 n.toNat<|some n.toNat) cv∧Ae W0 F bs' (H++[.cells e (Iq zs<|n.toNat*k) false]) w'∧Ext bs H w bs' (H++[.cells e (Iq zs<|n.toNat*k) false]) w':=by
 obtain⟨hu,hk1,i,z,hi,hzz,hisz,hiby,hzsz⟩:=Kv ht;subst hisz;subst hiby
 have hsz:(sizeOf e).run P w= .ok i.size w:=PS;have hl:Ab F bs H w zs z.cells.toList:=by grind[Ez,K5,Rep.const]
 have hzr:(zeroValue e).run P w= .ok z w:=UB;have start:∃z0:Array Value,((if n.toNat*i.size=0 then pure #[]else do pure (←zeroValue e).cells:Sem<|Array Value).run P w= .ok z0 w)∧Ab F bs H w (Iq zs<|n.toNat*i.size) ((bV<|n.toNat*i.size).map (z0[· %z0.size]!)).toList:=by
  by_cases h0:n.toNat*i.size=0;·simp_all[Iq,Ab]
  ·exact⟨z.cells,by simp[h0,hzr],BF hl Y _⟩
 obtain⟨z0,hz0,hrow⟩:=start;obtain⟨h1,h2,h3⟩:=Py hh e hrow;rw[aW]at h1 h2 h3;have hw:IntKind.i64.wrap n=n:=by rw[IntKind.wrap_i64];omega
 have hbn:¬((i.bytes:Int)*n>2^48):=by have:(i.bytes:Int)*n≤1000*1000000:=Int.mul_le_mul Y hn h0 Y;omega
 refine⟨.slice (some ⟨w.heap.size,0,none⟩) n.toNat n.toNat,w.alloc<|.cells ((bV<|n.toNat*i.size).map (z0[· %z0.size]!)) e,_,?_,?_,h2,h3⟩
 ·have hroom:∀m,(askRoom m).run P w= .ok () w:=λm=>by simp_all
  simp only[Instr.makeSlice,asInt,asIntOf,sRb,aQ,A9 w hu,Et w hi,rAo,hw];rw[if_neg (by grind)];simp only[hroom,sRb,hsz,rAo];by_cases h00:n.toNat*i.size=0;all_goals simp_all[newRow]
 ·simp only[Rep,D1,aD];refine⟨⟨_,n.toNat,bC _,Z⟩,by simp[Iq],λ_=>⟨w.heap.size,n.toNat,IX,rfl,bC _,λc' h=>by injection h,B4⟩⟩
def Qh :List (Bz×Int)→Bz→Nat→Option (Nat×Int)
 | [],_,_=>none|(k',v)::r,k,i=>cond (decide<|k=k') (some (i,v))<|Qh r k<|i+1
def Ku (es:List<|Bz×Int)(k:Bz)(v:Int):List (Bz×Int):=match Qh es k 0 with|some (i,_)=>es.set i (k,v)|none=>es++[(k,v)]
def Ih (es:List<|Bz×Int)(k:Bz):Int:=match Qh es k 0 with|some (_,v)=>v|none=>0
theorem Np (k:Bz):∀(es:List<|Bz×Int) (n i:Nat),Instr.findNow .string (.string ⟨k.toArray⟩) (Jq n es) i=some ((Qh es k i).map λp=>(p.1,.int .i64 p.2))
 | [],_,_=>rfl
 |(k',v)::r,n,i=>by
  simp only[Jq,Instr.findNow,Instr.sameNow,Qh];by_cases h:k=k';·grind[dQ]
  ·have h2:((⟨k.toArray⟩:ByteArray)==⟨k'.toArray⟩)=false:=by refine Bool.eq_false_iff.2 λe=>?_;simp_all[dQ]
   rw[h2];simp only[h,decide_false,cond_false];exact Np k r (n+1)<|i+1
theorem Zc (k:Bz)(v:Int):∀(es:List<|Bz×Int) (n:Nat),Jq n (es++[(k,v)])=Jq n es++[{key:=.string ⟨k.toArray⟩,val:=.int .i64 v,born:=n+N es}]
 | [],n=>rfl|(k',v')::r,n=>by simp only[List.cons_append,Jq,Zc k v r,lCo];grind
theorem Uz (k:Bz)(v:Int):∀(es:List<|Bz×Int) (n i:Nat),(Jq n es).modify i (λe=>{e with key:=.string ⟨k.toArray⟩,val:=.int .i64 v})=Jq n (es.set i (k,v))
 | [],_,_=>by simp[Jq]|(k',v')::r,n,0=>by simp[Jq]|(k',v')::r,n,i+1=>by simp[Jq,Uz k v r]
theorem EX (k:Bz):∀(es:List<|Bz×Int) (n:Nat) (p:Nat×Int) (m:Nat),Qh es k n=some p→n≤p.1∧((Jq m es)[p.1-n]?).map (·.key)=some (.string ⟨k.toArray⟩)
 | [],_,_,_,h=>by simp[Qh]at h
 |(k',v)::r,n,p,m,h=>by
  simp only[Qh]at h;by_cases hk:k=k';·grind[Jq]
  ·simp only[hk,decide_false,cond_false]at h;obtain⟨h1,h2⟩:=EX k r (n+1) p (m+1) h;grind[Jq]
def V7 (P:Program)(t:TypeId):Bool:=
 match P.underlying t with
 |some (.map k e)=>match P.underlying k with
  |some .string=>match P.info? e with
   |some i=>match i.zero with
    |some (.int .i64 0)=>true|_=>false
   |none=>false
  |_=>false
 |_=>false
section
variable {P : Program} {W0 w : World} {bs : List Nat} {H H' : Hz}
theorem QW (hh:Ae W0 F bs H w){t:TypeId}:
 ∃cv w' bs',(Instr.makeMap t none).run P w= .ok cv w'∧Rep F bs' (H++[.mp []]) w' (.mref<|N H) cv∧Ae W0 F bs' (H++[.mp []]) w'∧Ext bs H w bs' (H++[.mp []]) w':=by
 have he:=Ext.alloc hh.len (λb hb=>(hh.low b hb).2) (.map #[] 0)<|.mp [];refine⟨.map<|some w.heap.size,w.alloc<|.map #[] 0,_,Z,?_,hh.alloc _ _<|heap_alloc_new w _,he⟩;simp only[Rep,Hg,aD];exact⟨⟨_,Z⟩,w.heap.size,IX,Z⟩
def aupd (H:Hz)(m k v:AVal):Option Hz:=
 match m with
 |.mref id=>match H[id]? with
  |some (.mp es)=>match k with
   |.str k=>match v with
    |.int .i64 v=>some (H.set id<|.mp<|Ku es k v)|_=>none
   |_=>none
  |_=>none
 |_=>none
def aget (H:Hz)(m k:AVal):Option AVal:=
 match m with
 |.mref id=>match H[id]? with
  |some (.mp es)=>match k with
   |.str k=>some (.int .i64<|Ih es k)|_=>none
  |_=>none
 |_=>none
theorem Yf {t:TypeId}(h:V7 P t=true):∃k e,P.underlying t=some (.map k e)∧P.underlying k=some .string∧∀w:World,(zeroValue e).run P w= .ok (.int .i64 0) w:=by
 unfold V7 at h;split at h
 ·rename_i k e ht;split at h
  ·rename_i hk;split at h
   ·rename_i i hi;split at h;·rename_i hz;exact⟨k,e,ht,hk,λw=>by simp[zeroValue,Et w hi,hz]⟩
    ·cases h
   ·cases h
  ·cases h
 ·cases h
theorem aupd_ok (hh:Ae W0 F bs H w){t:TypeId}(ht:V7 P t=true){m k v:AVal}{cm ck cv:Value}(hm:Rep F bs H w m cm)(hk:Rep F bs H w k ck)(hv:Rep F bs H w v cv)(h:aupd H m k v=some H'):
 ∃w',(Instr.mapUpdate t cm ck cv).run P w= .ok () w'∧Ae W0 F bs H' w'∧Ext bs H w bs H' w':=by
 obtain⟨kt,et,h1,h2,_⟩:=Yf ht;unfold aupd at h;split at h
 ·rename_i id;split at h
  ·rename_i es ho;split at h
   ·rename_i kk;split at h
    ·rename_i vv;injection h with h;subst h;simp only[Rep]at hk hv hm;subst hk;subst hv;obtain⟨_,hm⟩:=hm;unfold Hg at hm;rw[ho]at hm;obtain⟨b,hb,rfl⟩:=hm;have hobj:=hh.obj id _ b ho hb;simp only[Iy]at hobj;have hlow:=hh.low b<|mGe hb;have hkey:cD .string (.string ⟨kk.toArray⟩):=by simp[cD]
     have hfind:=dH (P:=P) (w:=w) (l:=(Jq 0 es).toArray.toList) h2 (by
      have:=Np kk es 0 0
      simpa using this)
     have hset:∀(arr:Array MapEntry) (n:Nat),arr=(Jq 0<|Ku es kk vv).toArray→n=N (Ku es kk vv)→(setObj b<|.map arr n).run P w= .ok () {w with heap:=w.heap.setIfInBounds b (.map (Jq 0<|Ku es kk vv).toArray<|N<|Ku es kk vv)}:=by grind[MapKept.run_setObj_map]
     have hoe:Bi bs bs w {w with heap:=w.heap.setIfInBounds b (.map (Jq 0<|Ku es kk vv).toArray<|N<|Ku es kk vv)} id (.mp es) (.mp<|Ku es kk vv):=.inr ⟨_,Z,Z⟩;have hother:∀j,j≠b→(w.heap.setIfInBounds b<|Obj.map (Jq 0<|Ku es kk vv).toArray<|N<|Ku es kk vv)[j]?=w.heap[j]?:=λj hj=>by grind
     have hext:=Ext.upd (w':={w with heap:=w.heap.setIfInBounds b (.map (Jq 0<|Ku es kk vv).toArray<|N<|Ku es kk vv)}) hh.nodup ho hb B4 hother hoe;refine⟨{w with heap:=w.heap.setIfInBounds b (.map (Jq 0<|Ku es kk vv).toArray<|N<|Ku es kk vv)},?_,Ae.upd hh ho hb (Sz w _ hlow.1) B4 hother hoe ?_,hext⟩
     ·simp only[Instr.mapUpdate,sRb,A9 w h1,rAo,cU hobj,dD h2 hkey,hfind];cases hf:Qh es kk 0 with
      |none=>
       simp only[Option.map_none];refine hset _ _ ?_ ?_;·grind[Ku,Zc]
       ·simp[Ku,hf]
      |some p=>
       obtain⟨_,hg⟩:=EX kk es 0 p 0 hf;simp only[bQ];have hkey2:(((Jq 0 es).toArray[p.1]?).map (·.key)).getD (.string ⟨kk.toArray⟩)= .string ⟨kk.toArray⟩:=by grind
       simp only[sRb,hkey2,MapKept.run_keyThatStays hkey,rAo];refine hset _ _ ?_ ?_;·grind[Ku,Uz]
       ·simp[Ku,hf]
     grind[Iy]
    ·cases h
   ·cases h
  ·cases h
 ·cases h
theorem aget_ok (hh:Ae W0 F bs H w){t:TypeId}(ht:V7 P t=true){m k v:AVal}{cm ck:Value}(hm:Rep F bs H w m cm)(hk:Rep F bs H w k ck)(h:aget H m k=some v):
 ∃cv,(Instr.lookup t cm ck false).run P w= .ok cv w∧Rep F bs H w v cv:=by
 obtain⟨kt,et,h1,h2,h3⟩:=Yf ht;unfold aget at h;split at h
 ·rename_i id;split at h
  ·rename_i es ho;split at h
   ·rename_i kk;injection h with h;subst h;simp only[Rep]at hk hm;subst hk;obtain⟨_,hm⟩:=hm;unfold Hg at hm;rw[ho]at hm;obtain⟨b,hb,rfl⟩:=hm;have hobj:=hh.obj id _ b ho hb;simp only[Iy]at hobj;have hkey:cD .string (.string ⟨kk.toArray⟩):=by simp[cD]
    have hfind:=dH (P:=P) (w:=w) (l:=(Jq 0 es).toArray.toList) h2 (by
     have:=Np kk es 0 0
     simpa using this)
    refine⟨.int .i64<|Ih es kk,?_,Zx⟩;simp only[Instr.lookup,sRb,A9 w h1,rAo,cU hobj,aQ,dD h2 hkey,hfind];cases hf:Qh es kk 0<;>simp_all[Ih]
   ·cases h
  ·cases h
 ·cases h
end
end Go.Abs
