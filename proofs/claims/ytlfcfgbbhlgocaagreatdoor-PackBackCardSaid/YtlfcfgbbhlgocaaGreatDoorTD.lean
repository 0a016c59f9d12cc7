/- A part of the proof that tabula/tabulalaw25.PackBack returns true for every input, each argument reading as it did (its card: the last text). No conditions of its own. -/
import Derived.Test.YtlfcfgbbhlgocaaGreatDoorTC
import Derived.Recover
import Derived.Shelf.Strings.MapGrows
import Derived.Shelf.Unicode.DecodeSlow
import Derived.Lib.Join
import Derived.Sort.Grow
import Derived.Defers
import Derived.Lib.ValidU
import Derived.Lib.TrimU
set_option linter.unusedVariables false
set_option linter.unusedSimpArgs false
open List renaming length->N
open Array renaming getElem?_eq_some_iff->dZ,getElem?_eq_getElem->eE,getD_eq_getD_getElem?->eJ,replicate->fE
open Bool renaming not_eq_true'->fD,or_eq_true->eI
open Go.Abs.AVal renaming one->fW
open Go.Abs.Fq renaming cons->fU
open Go.Abs.SP renaming nxt->eR
open Go.Calls renaming mono->eU
open Go.Lib renaming validGoD->gD
open Go.Region renaming ready->eH,wanted->eO,binds->eC
open Go.Utf8 renaming decode->fT,valid->fV,runeError->fX
open List renaming drop_eq_getElem_cons->fQ,getElem?_eq_some_iff->aC,replicate->fH,all_eq_true->eB,getElem?_of_mem->eX,mem_cons->eS,mem_range->fC,range->eD,range'_succ->fK,getElem?_cons_zero->eV,getElem?_cons_succ->eT,take_of_length_le->bU,range'->gB,drop_drop->fM
open Nat renaming beq->aA,le_refl->bC,ble->bK,eq_of_beq_eq_true->cV,le_of_lt->eP,beq_refl->fY,not_lt_zero->fZ,strongRecOn->eF,le_of_ble_eq_true->aO,add_comm->gC,zero_add->bS,blt->bB
open Option renaming isSome_iff_exists->cO
namespace Go.Abs
open Go.RowKit
def i8s (l:List Int):List AVal:=l.map<|AVal.int .i8
def nb (b:Bool)(l:List Int)(m:Bool):List AVal:=.bool b::(i8s l++[.bool m])
theorem Qp (l:List Int):N (i8s l)=N l:=by simp[i8s]
theorem G3 (b:Bool)(l:List Int)(m:Bool):N (nb b l m)=N l+2:=by simp[nb,i8s]
theorem JW (l:List Int):(i8s l).all fW=true:=by induction l with|nil=>rfl|cons d l ih=>exact ih
theorem nb_one (b:Bool)(l:List Int)(m:Bool):(nb b l m).all fW=true:=by show((i8s l++[AVal.bool m]).all fW)=true;rw[List.all_append,JW];rfl
theorem blwL_i8 {n:Nat}(l:List Int)(r:List AVal):A8 n (i8s l++r)=A8 n r:=by induction l with|nil=>rfl|cons d l ih=>exact ih
theorem Jn {n:Nat}(b:Bool)(l:List Int)(m:Bool):A8 n (nb b l m)=true:=by show A8 n (i8s l++[AVal.bool m])=true;rw[blwL_i8];rfl
theorem LM {b m:Bool}{l:List Int}{n:Nat}(h:n<N l):(nb b l m).drop (1+n)= .int .i8 (l.getD n 0)::((i8s l).drop (n+1)++[.bool m]):=by rw[gC 1 n];show(i8s l++[AVal.bool m]).drop n=_;grind[i8s,fQ]
theorem KU {b m:Bool}{l:List Int}{n:Nat}(h:n≤N l):(nb b l m).take (1+n)= .bool b::i8s (l.take n):=by rw[gC 1 n];show AVal.bool b::((i8s l++[AVal.bool m]).take n)=_;grind[i8s,List.map_take]
theorem nb_set {b m:Bool}{l:List Int}{n:Nat}{v:Int}(h:n<N l):spl (nb b l m) (1+n) [.int .i8 v]=nb b (l.set n v) m:=by
 have h1:(nb b l m).drop (1+n+1)=(i8s l).drop (n+1)++[AVal.bool m]:=by have:=congrArg List.tail<|LM (b:=b) (m:=m) h;simp_all
 show(nb b l m).take (1+n)++([.int .i8 v]++(nb b l m).drop (1+n+N [AVal.int .i8 v]))=_;rw[KU<|eP h];simp_all[i8s,nb,List.set_eq_take_append_cons_drop]
section
variable {G : List (Nat × AVal)} {s : St} {id T : Nat} {b m : Bool} {l : List Int}
theorem W1 {x i:AOpd}{n:Nat}(hx:ev G s x=some (.ptr id 1))(hi:ev G s i=some (.int .i64 (n:Nat)))(ho:s.H[id]?=some (.cells T (nb b l m) false)):aop G s (.idxArr 96 1 x i)=some (.val (.ptr id<|1+n) s.H [(0,(n:Nat)),((n:Nat)+1,96)]):=by simp_all[Lu,aop,BX]
theorem Wq {a:AOpd}{n:Nat}(ha:ev G s a=some (.ptr id<|1+n))(ho:s.H[id]?=some (.cells T (nb b l m) false))(hn:n<N l):aop G s (.load 1 false a)=some (.val (.int .i8<|l.getD n 0) s.H []):=by simp only[aop,ha,Jf,ho,C3,LM hn];rfl
theorem Xt {a x:AOpd}{n:Nat}{v:Int}{H':Hz}(ha:ev G s a=some (.ptr id<|1+n))(hx:ev G s x=some (.int .i8 v))(ho:s.H[id]?=some (.cells T (nb b l m) false))(hn:n<N l)(hH:s.H.set id (.cells T (nb b (l.set n v) m) false)=H'):aop G s (.store 1 a x)=some (.skip H'):=by
 subst hH;have h1:bK (1+n+1) (N<|nb b l m)=true:=by grind[G3,Nat.ble_eq_true_of_le]
 have h2:(aA (N [AVal.int .i8 v]) 1&&bK (1+n+1) (N<|nb b l m)&&[AVal.int .i8 v].all fW)=true:=by rw[h1];rfl
 simp only[aop,ha,hx,Nc,ho];show(match(cond (aA (N [AVal.int .i8 v]) 1&&bK (1+n+1) (N<|nb b l m)&&[AVal.int .i8 v].all fW) (some<|s.H.set id<|.cells T (spl (nb b l m) (1+n) [.int .i8 v]) false) none)with|some H'=>some (ARes.skip H')|none=>none)=_;grind[nb_set]
theorem QE {a:AOpd}(ha:ev G s a=some (.ptr id 1))(ho:s.H[id]?=some (.cells T (nb b l m) false))(hl:N l=96):aop G s (.load 96 true a)=some (.val (.agg<|i8s l) s.H []):=by
 have h1:((nb b l m).drop 1).take 96=i8s l:=by grind[nb,Qp]
 simp only[aop,ha,Jf,ho,C3,h1,Qp,hl];rfl
theorem HP {a:AOpd}(ha:ev G s a=some (.ptr id 0))(ho:s.H[id]?=some (.cells T (nb b l m) false))(hl:N l=96):aop G s (.load 98 true a)=some (.val (.agg<|nb b l m) s.H []):=by
 have h1:((nb b l m).drop 0).take 98=nb b l m:=by simp_all[bU,G3]
 simp only[aop,ha,Jf,ho,C3,h1,G3,hl];rfl
theorem loadNb {a:AOpd}(ha:ev G s a=some (.ptr id 0))(ho:s.H[id]?=some (.cells T (nb b l m) false)):aop G s (.load 1 false a)=some (.val (.bool b) s.H []):=by simp only[aop,ha,Jf,ho,C3];rfl
theorem loadNm {a:AOpd}(ha:ev G s a=some (.ptr id 97))(ho:s.H[id]?=some (.cells T (nb b l m) false))(hl:N l=96):aop G s (.load 1 false a)=some (.val (.bool m) s.H []):=by
 have h1:(nb b l m).drop 97=[AVal.bool m]:=by grind[nb,Qp]
 simp only[aop,ha,Jf,ho,C3,h1];rfl
theorem storeNm {a x:AOpd}{v:Bool}{H':Hz}(ha:ev G s a=some (.ptr id 97))(hx:ev G s x=some (.bool v))(ho:s.H[id]?=some (.cells T (nb b l m) false))(hl:N l=96)(hH:s.H.set id (.cells T (nb b l v) false)=H'):aop G s (.store 1 a x)=some (.skip H'):=by
 subst hH;have h0:N (nb b l m)=98:=by rw[G3,hl]
 have h3:spl (nb b l m) 97 [AVal.bool v]=nb b l v:=by show(nb b l m).take (1+96)++([AVal.bool v]++(nb b l m).drop 98)=_;rw[KU Y,List.drop_of_length_le Y,bU Y];rfl
 simp only[aop,ha,hx,Nc,ho];show(match(cond (aA (N [AVal.bool v]) 1&&bK (97+1) (N<|nb b l m)&&[AVal.bool v].all fW) (some<|s.H.set id<|.cells T (spl (nb b l m) 97 [AVal.bool v]) false) none)with|some H'=>some (ARes.skip H')|none=>none)=_;rw[h0,h3];rfl
theorem cutN {x hi:AOpd}{n:Nat}(hx:ev G s x=some (.ptr id 1))(hhi:ev G s hi=some (.int .i64 (n:Nat)))(ho:s.H[id]?=some (.cells T (nb b l m) false))(hl:N l=96):aop G s (.cutArr 96 1 x<|some hi)=some (.val (.hsl 1 id 1 n<|some 96) s.H [(0,(n:Nat)),((n:Nat),96)]):=by
 have h0:bK (1+96*1) (N<|nb b l m)=true:=by rw[G3,hl];rfl
 simp only[aop,hx,oev,hhi,Wg,ho,h0,cond_true];rfl
def clr (l:List Int)(n:Nat):List Int:=fH n 0++l.drop n
theorem HD {l:List Int}{n:Nat}(h:n≤N l):N (clr l n)=N l:=by simp[clr];omega
theorem clearN {x:AOpd}{n:Nat}{H':Hz}{c:Option Nat}(hx:ev G s x=some (.hsl 1 id 1 n c))(ho:s.H[id]?=some (.cells T (nb b l m) false))(hl:n≤N l)(hH:s.H.set id (.cells T (nb b (clr l n) m) false)=H'):aop G s (.clear 1 [.int .i8 0] x)=some (.val (.tup []) H' []):=by
 subst hH;have hz:Iq [.int .i8 0] (n*1)=i8s (fH n 0):=by simp_all[Iq,i8s,List.eq_replicate_iff,Nat.mod_one]
 have h3:spl (nb b l m) 1 (i8s<|fH n 0)=nb b (clr l n) m:=by show AVal.bool b::(i8s (fH n 0)++(nb b l m).drop (1+N (i8s<|fH n 0)))=_;simp_all[gC,i8s,List.drop_append_of_le_length,nb,clr]
 simp only[aop,hx,CE,ho,hz,h3,fY,cond_true,JW];grind[cV,clr,Tj]
end
theorem Z5 {l:List Int}{i:Nat}(h:i<N l):Jb 1 false (i*1) (.agg<|i8s l)=some (.int .i8<|l.getD i 0):=by simp_all[i8s,fQ,Jb]
theorem LO {l l':List Int}:∀(k i:Nat),i+k≤N l→i+k≤N l'→∃c,aeq (Uy 1 false .i i k) (.agg<|i8s l) (.agg<|i8s l')=some c
 |0,_,_,_=>⟨true,rfl⟩|k+1,i,h1,h2=>by obtain⟨c,hc⟩:=LO (l:=l) (l':=l') k (i+1) Y Y;refine⟨(l.getD i 0==l'.getD i 0)&&c,?_⟩;simp only[Uy,aeq,Z5 (show i<N l by omega),Z5 (show i<N l' by omega),hc];rfl
section
variable {H X : Hz} {id j : Nat} {o x : HObj}
theorem gA (h:H[id]?=some o):(H++X)[id]?=some o:=by grind
theorem gSt (hne:j≠id)(h:H[id]?=some o):(H.set j x)[id]?=some o:=by grind
theorem gT (h:id<N H):(H.set id x)[id]?=some x:=List.getElem?_set_self h
theorem gL :(H++[x])[N H]?=some x:=List.getElem?_concat_length
theorem gL2 :(H++[o,x])[N H+1]?=some x:=by grind
theorem gLt (h:H[id]?=some o):id<N H:=(aC.1 h).1
theorem AQ (h:id<N H):(H++X).set id x=H.set id x++X:=by grind
theorem Xv {n:Nat}(h:B7 n H=true)(hx:B7 n [x]=true):B7 n (H.set id x)=true:=by
 induction H generalizing id with
 |nil=>exact h
 |cons a r ih=>
  cases id with
  |zero=>cases a<;>cases x<;>simp only[List.set_cons_zero,B7]at h hx⊢<;>first|exact h|simp_all
  |succ i=>
   simp only[List.set_cons_succ];cases a with
   |cells T cs op=>
    simp only[B7]at h⊢;cases hc:A8 n cs with
    |false=>rw[hc]at h;cases h
    |true=>rw[hc]at h;exact ih h
   |iter s p=>exact ih h|mp es=>exact ih h|dead=>exact ih h
theorem Fv {n:Nat}:∀{H X:Hz},B7 n H=true→B7 n X=true→B7 n (H++X)=true
 | [],_,_,hx=>hx
 |.cells T cs op::r,X,h,hx=>by
  simp only[List.cons_append,B7]at h⊢;cases hc:A8 n cs with
  |false=>rw[hc]at h;cases h
  |true=>rw[hc]at h;exact Fv h hx
 |.iter s p::r,X,h,hx=>Fv (H:=r) h hx|.mp es::r,X,h,hx=>Fv (H:=r) h hx|.dead::r,X,h,hx=>Fv (H:=r) h hx
end
mutual
theorem T0 {n k : Nat} (hk : n ≤ k) : ∀ (a : AVal), blw n a = true → blw k a = true
  | .agg cs, h => Dv hk cs h
  | .tup cs, h => Dv hk cs h
  | .row _ es, h => Dv hk es h
  | .hsl _ id _ _ _, h => by grind [blw, Nat.blt_eq]
  | .ptr id _, h => by grind [blw, Nat.blt_eq]
  | .mref id, h => by grind [blw, Nat.blt_eq]
  | .optr id _ _, h => by grind [blw, Nat.blt_eq]
  | .eptr e _, h => T0 hk e h
  | .fn _ a c, h => by
    simp only [blw] at h ⊢
    cases ha : A8 n a with
    | false => rw [ha] at h; cases h
    | true => rw [ha] at h; rw [Dv hk a ha]; exact Dv hk c h
  | .iface _ x, h => T0 hk x h
  | .bool _, _ | .int _ _, _ | .str _, _ | .nilSl, _ | .emp, _ | .nilPtr, _ | .nilFn, _ | .nilMp, _ | .nilIf, _ => rfl
theorem Dv {n k : Nat} (hk : n ≤ k) : ∀ (l : List AVal), A8 n l = true → A8 k l = true
  | [], _ => rfl
  | v :: r, h => by
    simp only [A8] at h ⊢
    cases hv : blw n v with
    | false => rw [hv] at h; cases h
    | true => rw [hv] at h; rw [T0 hk v hv]; exact Dv hk r h
end
theorem Io {n k:Nat}(hk:n≤k):∀{H:Hz},B7 n H=true→B7 k H=true
 | [],_=>rfl
 |.cells T cs op::r,h=>by
  simp only[B7]at h⊢;cases hc:A8 n cs with
  |false=>rw[hc]at h;cases h
  |true=>rw[hc]at h;rw[Dv hk cs hc];exact Io hk h
 |.iter s p::r,h=>Io (H:=r) hk h|.mp es::r,h=>Io (H:=r) hk h|.dead::r,h=>Io (H:=r) hk h
theorem Ci {n:Nat}(l:Bz):A8 n (u8c l)=true:=by induction l with|nil=>rfl|cons d l ih=>exact ih
theorem blwH_u8 {n T:Nat}(l:Bz):B7 n [.cells T (u8c l) true]=true:=by show cond (A8 n<|u8c l) true false=true;rw[Ci];rfl
theorem LS (l:Bz):N (u8c l)=N l:=Ze
theorem UI (l:Bz)(b:UInt8):u8c (l++[b])=u8c l++[.int .u8 (b.toNat:Nat)]:=Ze
theorem u8c_app (l k:Bz):u8c (l++k)=u8c l++u8c k:=Ze
section
variable {G : List (Nat × AVal)} {s : St} {id jd T n : Nat} {cs : List AVal}
theorem Im {x:AOpd}{off:Nat}(hx:ev G s x=some (.ptr id off))(ho:s.H[id]?=some (.cells T cs false)):aop G s (.nilCheck x)=some (.val (.ptr id off) s.H []):=by
 have hl:Lu s.H id=true:=by grind[Lu]
 simp only[aop,hx,anil,hl];rfl
theorem Gv {x:AOpd}{off k:Nat}(hx:ev G s x=some (.ptr id off))(ho:s.H[id]?=some (.cells T cs false)):aop G s (.fieldAddr k x)=some (.val (.ptr id<|off+k) s.H []):=by
 have hl:Lu s.H id=true:=by grind[Lu]
 simp only[aop,hx,BX,hl];rfl
theorem O9 {x:AOpd}{off k:Nat}{g:Bool}{v:AVal}(hx:ev G s x=some (.ptr id off))(ho:s.H[id]?=some (.cells T cs false))(hr:C3 k g cs off=some v):aop G s (.load k g x)=some (.val v s.H []):=by simp only[aop,hx,Jf,ho,hr];rfl
theorem J9 {a x:AOpd}{off k:Nat}{v:AVal}{H':Hz}(ha:ev G s a=some (.ptr id off))(hx:ev G s x=some v)(ho:s.H[id]?=some (.cells T cs false))(hc:(aA (N v.cells) k&&bK (off+k) (N cs)&&v.cells.all fW)=true)(hH:s.H.set id (.cells T (spl cs off v.cells) false)=H'):aop G s (.store k a x)=some (.skip H'):=by grind[aop,Nc]
theorem MS {x i:AOpd}{m:Nat}{c:Option Nat}(hx:ev G s x=some (.hsl 1 id 0 m c))(hi:ev G s i=some (.int .i64 (n:Nat)))(ho:s.H[id]?=some (.cells T cs false)):aop G s (.idxSl 1 x i)=some (.val (.ptr id n) s.H [(0,(n:Nat)),((n:Nat)+1,(m:Nat))]):=by simp_all[Lu,aop]
theorem ND {l:List Nat}{i:Nat}(h:i<N l):(Bm l).drop i= .int .i64 (l.getD i 0:Nat)::(Bm l).drop (i+1):=by grind[Bm,fQ]
theorem IK {x:AOpd}{l:List Nat}(hx:ev G s x=some (.ptr id n))(ho:s.H[id]?=some (.cells T (Bm l) false))(hn:n<N l):aop G s (.load 1 false x)=some (.val (.int .i64 (l.getD n 0:Nat)) s.H []):=O9 hx ho (by rw[C3,ND hn];rfl)
theorem oAppB {x y:AOpd}{l:Bz}{b:UInt8}{vd:Nat}{c c':Option Nat}{H':Hz}(hx:ev G s x=some (.hsl 1 jd 0 (N l) c))(hy:ev G s y=some (.hsl 1 vd 0 1 c'))(hj:s.H[jd]?=some (.cells 5 (u8c l) true))(hv:s.H[vd]?=some (.cells 5 [.int .u8 (b.toNat:Nat)] false))(hH:s.H.set jd (.cells 5 (u8c<|l++[b]) true)=H'):
 aop G s (.append 5 1 1 x y)=some (.val (.hsl 1 jd 0 (N<|l++[b]) none) H' [(((N l+1)*1:Nat),C0),((N l+1:Nat),C0)]):=by
 subst hH;have h2:N (l++[b])=N l+1:=B4;have hl:N (u8c l)=N l*1:=by rw[LS,Nat.mul_one]
 have hy':Cm 1 s.H (.hsl 1 vd 0 1 c')=some ([.int .u8 (b.toNat:Nat)],1):=by simp_all[Cm]
 rw[h2,UI];simp only[aop,hx,hy,P4,hy',G6,hj,hl,fY,cond_true,Bool.and_self];rfl
theorem oAppB0 {x y:AOpd}{b:UInt8}{vd:Nat}{c':Option Nat}(hx:ev G s x=some .nilSl)(hy:ev G s y=some (.hsl 1 vd 0 1 c'))(hv:s.H[vd]?=some (.cells 5 [.int .u8 (b.toNat:Nat)] false)):
 aop G s (.append 5 1 1 x y)=some (.val (.hsl 1 (N s.H) 0 1 none) (s.H++[.cells 5 (u8c [b]) true]) [((1*1:Nat),C0),((1:Nat),C0)]):=by
 have hy':Cm 1 s.H (.hsl 1 vd 0 1 c')=some ([.int .u8 (b.toNat:Nat)],1):=by simp_all[Cm]
 simp only[aop,hx,hy,P4,hy',G6];rfl
theorem oAppS {x y:AOpd}{l k:Bz}{c:Option Nat}{H':Hz}(hx:ev G s x=some (.hsl 1 jd 0 (N l) c))(hy:ev G s y=some (.str k))(hk:k≠[])(hj:s.H[jd]?=some (.cells 5 (u8c l) true))(hH:s.H.set jd (.cells 5 (u8c<|l++k) true)=H'):
 aop G s (.appS 5 x y)=some (.val (.hsl 1 jd 0 (N<|l++k) none) H' [((N l+N k:Nat),C0)]):=by
 subst hH;have h0:aA (N k) 0=false:=by grind[cV]
 simp_all[u8c_app,aop,DO,LS]
theorem oAppS0 {x y:AOpd}{k:Bz}(hx:ev G s x=some .nilSl)(hy:ev G s y=some (.str k))(hk:k≠[]):
 aop G s (.appS 5 x y)=some (.val (.hsl 1 (N s.H) 0 (N k) none) (s.H++[.cells 5 (u8c k) true]) [((N k:Nat),C0)]):=by
 have h0:aA (N k) 0=false:=by grind[cV]
 simp_all[aop,DO]
theorem oMapGet {m k:AOpd}{md:Nat}{es:List (Bz×Int)}{q:Bz}(hm:ev G s m=some (.mref md))(hk:ev G s k=some (.str q))(ho:s.H[md]?=some (.mp es)):aop G s (.mapGet m k)=some (.val (.int .i64<|Ih es q) s.H []):=by simp only[aop,hm,hk,aget,ho];rfl
end
def Ad :Nat→Nat→Bz
 |0,_=>[]|k+1,n=>UInt8.ofNat (n/256^k)::Ad k n
def Dz (w:Nat)(ns:List Nat):Bz:=ns.flatMap<|Ad w
theorem Ak :∀(k n:Nat),N (Ad k n)=k
 |0,_=>rfl|k+1,n=>by simp[Ad,Ak k]
theorem Ie (w:Nat):∀(ns:List Nat),N (Dz w ns)=N ns*w
 | []=>by simp[Dz]|n::r=>by have:=Ie w r;grind[Dz,Ak]
theorem MG {n j:Nat}(hj:j≤7):AVal.int .u8 (IntKind.u8.wrap<|(n:Int).fdiv<|2^(min ((8*j:Nat):Int).toNat 64))= .int .u8 ((UInt8.ofNat<|n/256^j).toNat:Nat):=by
 have h1:min (((8*j:Nat):Int).toNat) 64=8*j:=Jo;have h2:((n:Int).fdiv<|2^(8*j))=((n/256^j:Nat):Int):=by
  have:(2:Nat)^(8*j)=256^j:=by rw[Nat.pow_mul]
  grind
 grind[UInt8.toNat_ofNat',IntKind.wrap_u8]
end Go.Abs
namespace Go.Abs
open Go.RowKit
variable {H : Hz} {n : Nat}
mutual
theorem Lm : ∀ (v : AVal), blw 0 v = true → ∃ k, ∀ m, k ≤ m → frz H n m v = some v
  | .agg cs, h => by
    obtain ⟨k, hk⟩ := Ir cs h
    exact ⟨k + 1, fun m hm => by cases m <;> grind [frz]⟩
  | .tup cs, h => by
    obtain ⟨k, hk⟩ := Ir cs h
    exact ⟨k + 1, fun m hm => by cases m <;> grind [frz]⟩
  | .row _ cs, h => by
    obtain ⟨k, hk⟩ := Ir cs h
    exact ⟨k + 1, fun m hm => by cases m <;> grind [frz]⟩
  | .hsl _ id _ _ _, h => GA
  | .ptr id _, h => GA
  | .mref id, h => GA
  | .optr id _ _, h => GA
  | .eptr e _, h => by
    obtain ⟨k, hk⟩ := Lm e h
    exact ⟨k + 1, fun m hm => by cases m <;> grind [frz]⟩
  | .fn _ a c, h => by
    simp only [blw] at h
    cases ha : A8 0 a with
    | false => rw [ha] at h; cases h
    | true =>
      rw [ha] at h
      obtain ⟨k, hk⟩ := Ir a ha
      obtain ⟨j, hj⟩ := Ir c h
      exact ⟨k + j + 1, fun m hm => by cases m <;> grind [frz]⟩
  | .iface _ x, h => by
    obtain ⟨k, hk⟩ := Lm x h
    exact ⟨k + 1, fun m hm => by cases m <;> grind [frz]⟩
  | .bool _, _ | .int _ _, _ | .str _, _ | .nilSl, _ | .emp, _ | .nilPtr, _ | .nilFn, _ | .nilMp, _ | .nilIf, _ => ⟨1, fun m hm => by cases m with | zero => omega | succ m => rfl⟩
theorem Ir : ∀ (l : List AVal), A8 0 l = true → ∃ k, ∀ m, k ≤ m → He H n m l = some l
  | [], _ => ⟨1, fun m hm => by cases m with | zero => omega | succ m => rfl⟩
  | v :: r, h => by
    simp only [A8] at h
    cases hv : blw 0 v with
    | false => rw [hv] at h; cases h
    | true =>
      rw [hv] at h
      obtain ⟨k, hk⟩ := Lm v hv
      obtain ⟨j, hj⟩ := Ir r h
      exact ⟨k + j + 1, fun m hm => by cases m <;> grind [He]⟩
end
theorem Aq {v:AVal}(h:blw 0 v=true):FzV H n v v:=by obtain⟨k,hk⟩:=Lm (H:=H) (n:=n) v h;exact .inl ⟨k,hk k<|bC _⟩
mutual
theorem BB {i : Nat} : ∀ (v : AVal), blw 0 v = true → noId i v = true
  | .agg cs, h => Hw cs h
  | .tup cs, h => Hw cs h
  | .row _ cs, h => Hw cs h
  | .hsl _ id _ _ _, h => GA
  | .ptr id _, h => GA
  | .mref id, h => GA
  | .optr id _ _, h => GA
  | .eptr e _, h => BB e h
  | .fn _ a c, h => by
    simp only [blw] at h
    cases ha : A8 0 a with
    | false => rw [ha] at h; cases h
    | true => rw [ha] at h; simp only [noId, Hw a ha, cond_true]; exact Hw c h
  | .iface _ x, h => BB x h
  | .bool _, _ | .int _ _, _ | .str _, _ | .nilSl, _ | .emp, _ | .nilPtr, _ | .nilFn, _ | .nilMp, _ | .nilIf, _ => rfl
theorem Hw {i : Nat} : ∀ (l : List AVal), A8 0 l = true → O3 i l = true
  | [], _ => rfl
  | v :: r, h => by
    simp only [A8] at h
    cases hv : blw 0 v with
    | false => rw [hv] at h; cases h
    | true => rw [hv] at h; simp only [O3, BB v hv, cond_true]; exact Hw r h
end
end Go.Abs
namespace Go.Abs
open Go.RowKit
section
variable {P : Program} {W0 : World} {G : List (Nat × AVal)} {m : Nat}
theorem Af {H:Hz}{n id off:Nat}(h:id<n):FzV H n (.ptr id off) (.ptr id off):=.inl ⟨1,TG⟩
theorem D3 {H:Hz}{n k id off len:Nat}{c:Option Nat}(h:id<n):FzV H n (.hsl k id off len c) (.hsl k id off len c):=.inl ⟨1,TG⟩
theorem fzA {m:Nat}{l:List (Nat×AVal)}{H:Hz}{n:Nat}{s:St}(k:Nat)(hH:s.H.take k=H:=by rfl)(h:Ks s.H k s.env l:=by
 repeat (first
  |exact fzN|refine fzC Cc (by first|exact fvI|exact fvB|exact fvS|exact Af V|exact D3 V|exact Aq rfl|exact Aq (by assumption)|apply_assumption-exfalso) ?_)) (hn:n=s.n:=by rfl) (hm:m≤k:=by first|exact Nat.zero_le _|decide) (hb:B7 k H=true:=by first|rfl|(simp only[B7,A8,blw,cond_true, *];done)|(simp only[B7,A8,blw,cond_true, *];rfl)):Fz m ⟨.al l,H,n⟩ s:=As k hn hm hH hb h
theorem ExM.lp {c y:ACode}{σ τ:Type}(st:σ→St)(Ix:σ→Prop)(μ:σ→Nat)(i:σ){id:Nat}(po:τ→St)(Jx:τ→Prop){s:St}{K:Aj→St→Prop}(h0:Fz m (st i) s)(hI:Ix i)
 (round:∀i,Ix i→ExM P W0 m c (st i) (loK m st Ix μ i id po Jx K)) (rest:∀j,Jx j→ExM P W0 m y (po j) K):ExM P W0 m (.loop c) s (iK id<|sK P W0 m y K):=by
 refine ExM.loop st Ix μ i h0 hI λi hi=>(round i hi).mono λe s' h=>?_;cases e with
 |normal=>exact h
 |ret=>
  rcases h with⟨he,_⟩|h;·cases he
  ·exact h.2
 |exit k=>
  show(bif aA k id then ExM P W0 m y s' K else K (.exit k) s');rcases h with⟨he,j,hj,hs⟩|h;·grind[fY,ExM.fz]
  ·simp_all
end
def FzL (H:Hz)(n:Nat):List AVal→List AVal→Prop
 | [],[]=>True|a::r,b::q=>FzV H n a b∧FzL H n r q|_,_=>False
def FrO (H:Hz)(n:Nat):HObj→HObj→Prop
 |.cells T cs op,o=>∃cs',o= .cells T cs' op∧FzL H n cs cs'|x,o=>o=x
def FrH (H:Hz)(n:Nat):Hz→Hz→Prop
 | [],[]=>True|a::r,b::q=>FrO H n a b∧FrH H n r q|_,_=>False
section
variable {W0 : World} {F : Nat → Prop} {bs : List Nat} {H : Hz} {w : World} {n : Nat}
theorem IZ (hh:Ae W0 F bs H w):∀(az vs:_) (az':List AVal),Ab F bs H w az vs→FzL H n az az'→Ab F (bs.take n) (H.take n) w az' vs∧N az'=N az
 | [],_,[],hr,_=>⟨by grind[Ab],rfl⟩|a::r,_,b::q,hr,h=>by simp only[Ab]at hr⊢;obtain⟨v,l,rfl,h1,h2⟩:=hr;obtain⟨h3,h4⟩:=IZ hh r l q h2 h.2;exact⟨⟨v,l,Z,HC hh h1 h.1,h3⟩,by simp[h4]⟩
 | [],_,_::_,_,h=>h.elim|_::_,_,[],_,h=>h.elim
theorem FrH.get {H:Hz}{n:Nat}:∀{A B:Hz},FrH H n A B→N B=N A∧∀(i:Nat) (o:HObj),B[i]?=some o→∃o2,A[i]?=some o2∧FrO H n o2 o
 | [],[],_=>⟨rfl,λi o h=>by simp at h⟩|a::r,b::q,h=>by obtain⟨h1,h2⟩:=FrH.get h.2;refine⟨by simp[h1],λi o ho=>?_⟩;cases i with|zero=>simp only[eV,iS]at ho;subst ho;exact⟨a,rfl,h.1⟩|succ i=>exact h2 i o bY76
 | [],_::_,h=>h.elim|_::_,[],h=>h.elim
theorem FzL.len {H:Hz}{n:Nat}:∀{az az':List AVal},FzL H n az az'→N az'=N az
 | [],[],_=>rfl|_::_,_::_,h=>by simp[FzL.len h.2]| [],_::_,h=>h.elim|_::_,[],h=>h.elim
structure Fh (m:Nat)(s1 s2:St):Prop where
 n:s1.n=s2.n
 H:∃k,m≤k∧FrH s2.H k (s2.H.take k) s1.H∧∀t v,s1.env.get t=some v→∃v2,s2.env.get t=some v2∧FzV s2.H k v2 v
theorem RS.fh {s1 s2:St}{a:Act}(hs:RS W0 F bs s2 a w){m:Nat}(hf:Fh m s1 s2){bs0:List Nat}{H0:Hz}{w0:World}(he:Ext bs0 H0 w0 bs s2.H w)(hm:N H0=m):
 ∃bs',RS W0 F bs' s1 a w∧Ext bs0 H0 w0 bs' s1.H w:=by
 obtain⟨hn,k,hmk,hH,henv⟩:=hf;obtain⟨hl,hg⟩:=hH.get;have hx:Ext (bs.take k) (s2.H.take k) w (bs.take k) s1.H w:=by
  refine⟨bC _,λ_ _ _=>Z,λ_ h=>.inl h,λi o ho=>?_⟩;have hi:i<N s1.H:=by grind
  obtain⟨o2,h1,h2⟩:=hg i _<|gGe hi;rw[ho]at h1;injection h1 with h1;subst h1;refine⟨_,gGe hi,?_⟩;cases o with|dead=>exact h2|iter s p=>exact .inr ⟨s,p,h2,rfl⟩|mp es=>exact .inr ⟨es,h2,rfl⟩|cells T cs op=>obtain⟨cs',h3,h4⟩:=h2;rw[h3];cases op with|false=>exact .inr ⟨T,cs',rfl,h4.len,rfl⟩|true=>exact .inr ⟨T,cs',rfl,.inr ⟨h4.len,rfl,λ_ _=>rfl⟩⟩
 refine⟨bs.take k,⟨⟨?_,hs.heap.base,λb hb=>hs.heap.low b<|List.mem_of_mem_take hb,hs.heap.nodup.sublist<|List.take_sublist _ _,λb hF=>?_,λi o b hi hb=>?_⟩,by rw[hs.size,hn],λt v hv=>?_⟩,(he.takeN Y).trans hx⟩;·rw[hl,List.length_take,List.length_take,hs.heap.len]
 ·obtain⟨h1,h2,h3⟩:=hs.heap.forb b hF;grind
 ·obtain⟨o2,h1,h2⟩:=hg i o hi;have hik:i<k:=by grind
  rw[List.getElem?_take_of_lt hik]at h1 hb;have ho:=hs.heap.obj i o2 b h1 hb;cases o2 with
  |dead=>rw[h2];trivial|iter s p=>rw[h2];exact ho|mp es=>rw[h2];exact ho
  |cells T cs op=>
   obtain⟨cs',h3,h4⟩:=h2;rw[h3];cases op with
   |false=>obtain⟨vs,rest,fr,q1,q2,q3⟩:=ho;exact⟨vs,rest,fr,q1,Ab.ext hx _ _ (IZ hs.heap _ _ _ q2 h4).1,q3⟩
   |true=>obtain⟨vs,rest,fr,q1,q2,q3⟩:=ho;exact⟨vs,rest,fr,q1,Ab.ext hx _ _ (IZ hs.heap _ _ _ q2 h4).1,q3⟩
 ·obtain⟨v2,h1,h2⟩:=henv t v hv;exact Rep.ext hx _ _<|HC hs.heap (hs.env t v2 h1) h2
end
section
variable {P : Program} {W0 : World} {G : List (Nat × AVal)} {m : Nat}
theorem ExM.fh {a:ACode}{s1 s2:St}{K:Aj→St→Prop}(hf:Fh m s1 s2)(h:ExM P W0 m a s1 K):ExM P W0 m a s2 K:=λc hc F bs x w hs bs0 H0 w0 hm he Q hq=>by obtain⟨bs',h1,h2⟩:=hs.fh hf he hm;exact h c hc F bs' x w h1 bs0 H0 w0 hm h2 Q hq
end
def hoK {σ τ:Type}(m:Nat)(st:σ→St)(Ix:σ→Prop)(μ:σ→Nat)(i:σ)(id:Nat)(po:τ→St)(Jx:τ→Prop)(K:Aj→St→Prop)(e:Aj)(s:St):Prop:=e.then s (λs'=>∃j,Ix j∧μ j<μ i∧Fh m (st j) s') λe s'=>(e= .exit id∧∃j,Jx j∧Fh m (po j) s')∨(e≠ .exit id∧K e s')
section
variable {m : Nat} {σ τ : Type} {st : σ → St} {Ix : σ → Prop} {μ : σ → Nat} {i : σ} {id : Nat} {po : τ → St} {Jx : τ → Prop} {K : Aj → St → Prop} {s : St}
theorem hoN (j:σ)(hI:Ix j)(hm:μ j<μ i)(hf:Fh m (st j) s):hoK m st Ix μ i id po Jx K .normal s:=⟨j,hI,hm,hf⟩
theorem hoE (j:τ)(hJ:Jx j)(hf:Fh m (po j) s):hoK m st Ix μ i id po Jx K (.exit id) s:=.inl ⟨Z,j,hJ,hf⟩
theorem hoR (h:K .ret s):hoK m st Ix μ i id po Jx K .ret s:=.inr ⟨(λe=>by cases e),h⟩
end
theorem ExM.lpH {P:Program}{W0:World}{m:Nat}{c y:ACode}{σ τ:Type}(st:σ→St)(Ix:σ→Prop)(μ:σ→Nat)(i:σ){id:Nat}(po:τ→St)(Jx:τ→Prop){s:St}{K:Aj→St→Prop}(h0:Fh m (st i) s)(hI:Ix i)
 (round:∀i,Ix i→ExM P W0 m c (st i) (hoK m st Ix μ i id po Jx K)) (rest:∀j,Jx j→ExM P W0 m y (po j) K):ExM P W0 m (.loop c) s (iK id<|sK P W0 m y K):=λk hk=>by
 obtain⟨k',rfl,hk'⟩:=Gl hk;intro F bs a w hs bs0 H0 w0 hm he Q hq;refine Fa (σ:=σ) (λi a' w'=>∃bs',Ix i∧RS W0 F bs' (st i) a' w'∧Ext bs0 H0 w0 bs' (st i).H w'∧a'.defers=a.defers) μ (s:=i) ?_ ?_;·obtain⟨bs',h1,h2⟩:=hs.fh h0 he hm;grind
 ·rintro i a1 w1 ⟨bs1,hi,hrs1,hext1,hd1⟩;refine round i hi k' hk' F bs1 a1 w1 hrs1 bs0 H0 w0 hm hext1 _ λe s' bs' a' w' hkk hrs hext hd=>?_;cases e with
  |normal=>obtain⟨j,hj,hlt,hw⟩:=hkk;obtain⟨bs2,h1,h2⟩:=hrs.fh hw hext hm;exact⟨j,⟨bs2,hj,h1,h2,hd.trans hd1⟩,hlt⟩
  |ret=>
   rcases hkk with⟨he,_⟩|h;·cases he
   ·exact hq .ret s' bs' a' w' h.2 hrs hext<|hd.trans hd1
  |exit q=>
   refine hq (.exit q) s' bs' a' w' ?_ hrs hext<|hd.trans hd1;show(bif aA q id then ExM P W0 m y s' K else K (.exit q) s');rcases hkk with⟨he,j,hj,hf⟩|h;·grind[fY,ExM.fh]
   ·simp_all
theorem B6 {m:Nat}{l:List (Nat×AVal)}{H:Hz}{n:Nat}{s:St}(k:Nat)(hH:FrH s.H k (s.H.take k) H)(h:Ks s.H k s.env l)(hn:n=s.n:=by rfl)(hm:m≤k:=by first|exact Nat.zero_le _|decide):Fh m ⟨.al l,H,n⟩ s:=by refine⟨hn,k,hm,hH,λt v hv=>Y2 h (t,v)<|BP hv⟩
def jH (m:Nat)(c:St)(K:Aj→St→Prop)(e:Aj)(s:St):Prop:=e.then s (λs'=>Fh m c s') K
theorem jHn {m:Nat}{c:St}{K:Aj→St→Prop}{s:St}(h:Fh m c s):jH m c K .normal s:=h
theorem ExM.jn {P:Program}{W0:World}{m:Nat}{x y:ACode}(c:St){s:St}{K:Aj→St→Prop}(h1:ExM P W0 m x s<|jH m c K)(h2:ExM P W0 m y c K):ExM P W0 m x s (sK P W0 m y K):=h1.mono λe s' h=>by cases e with|normal=>exact ExM.fh h h2|ret=>exact h|exit k=>exact h
theorem frC {H:Hz}{n:Nat}{a b:HObj}{r q:Hz}(h:FrO H n a b)(k:FrH H n r q):FrH H n (a::r) (b::q):=⟨h,k⟩
theorem frN {H:Hz}{n:Nat}:FrH H n [] []:=O
theorem frO {H:Hz}{n T:Nat}{cs cs':List AVal}{op:Bool}(h:FzL H n cs cs'):FrO H n (.cells T cs op) (.cells T cs' op):=⟨cs',Z,h⟩
theorem flC {H:Hz}{n:Nat}{a b:AVal}{r q:List AVal}(h:FzV H n a b)(k:FzL H n r q):FzL H n (a::r) (b::q):=⟨h,k⟩
theorem flN {H:Hz}{n:Nat}:FzL H n [] []:=O
section
variable {P : Program} {W0 : World} {G : List (Nat × AVal)} {m : Nat} {l : List (Nat × AVal)} {H : Hz} {n : Nat} {K : St → Prop} {r : List AOper} {d : Nat} {op : AOp}
theorem kD {s:St}{K:Aj→St→Prop}{x:List AOper}{b:Bool}(h:By P W0 G x s<|K .normal)(hg:Gr P W0 G:=by assumption):ExM P W0 m (.draw x b) s K:=ExM.draw hg h
theorem nQ {s:St}(h:K s):By P W0 G [] s K:=h
theorem vQ {v:AVal}(h:aop G ⟨.al l,H,n⟩ op=some (.val v H []))(k:By P W0 G r ⟨.al ((d,v)::l),H,n⟩ K)(hd:(Nat.blt d n&&Nat.blt d 4094)=true:=by with_unfolding_all rfl):By P W0 G (⟨some d,none,op⟩::r) ⟨.al l,H,n⟩ K:=Ao h hd trivial k
end
section
variable {P : Program} {W0 : World} {m : Nat} {c : ACode} {K : Aj → St → Prop} {s : St}
def uK (P:Program)(W0:World)(m:Nat)(c:ACode)(K:Aj→St→Prop)(n:Nat)(e:Aj)(s:St):Prop:=e.then s (Nh P W0 m c K n) K
theorem ExM.un (n:Nat)(h:ExM P W0 m c s<|uK P W0 m c K n):ExM P W0 m (.loop c) s K:=ExM.unroll (n+1) h
theorem uN {n:Nat}(h:ExM P W0 m c s<|uK P W0 m c K n):uK P W0 m c K (n+1) .normal s:=h
theorem uE {n i:Nat}(h:K (.exit i) s):uK P W0 m c K n (.exit i) s:=h
theorem uR {n:Nat}(h:K .ret s):uK P W0 m c K n .ret s:=h
end
section
variable {P : Program} {W0 : World} {m : Nat} {σ : Type} {st : σ → St} {Ix : σ → Prop} {μ : σ → Nat} {i : σ} {K : Aj → St → Prop} {s : St}
def haK (m:Nat)(st:σ→St)(Ix:σ→Prop)(μ:σ→Nat)(i:σ)(K:Aj→St→Prop)(e:Aj)(s:St):Prop:=e.then s (λs'=>∃j,Ix j∧μ j<μ i∧Fh m (st j) s') K
theorem haN (j:σ)(hI:Ix j)(hm:μ j<μ i)(hf:Fh m (st j) s):haK m st Ix μ i K .normal s:=⟨j,hI,hm,hf⟩
theorem haE {id:Nat}(h:K (.exit id) s):haK m st Ix μ i K (.exit id) s:=h
end
theorem ExM.lpA {P:Program}{W0:World}{m:Nat}{c:ACode}{σ:Type}(st:σ→St)(Ix:σ→Prop)(μ:σ→Nat)(i:σ){s:St}{K:Aj→St→Prop}(h0:Fh m (st i) s)(hI:Ix i)
 (round:∀i,Ix i→ExM P W0 m c (st i) (haK m st Ix μ i K)):ExM P W0 m (.loop c) s K:=λk hk=>by
 obtain⟨k',rfl,hk'⟩:=Gl hk;intro F bs a w hs bs0 H0 w0 hm he Q hq;refine Fa (σ:=σ) (λi a' w'=>∃bs',Ix i∧RS W0 F bs' (st i) a' w'∧Ext bs0 H0 w0 bs' (st i).H w'∧a'.defers=a.defers) μ (s:=i) ?_ ?_;·obtain⟨bs',h1,h2⟩:=hs.fh h0 he hm;grind
 ·rintro i a1 w1 ⟨bs1,hi,hrs1,hext1,hd1⟩;refine round i hi k' hk' F bs1 a1 w1 hrs1 bs0 H0 w0 hm hext1 _ λe s' bs' a' w' hkk hrs hext hd=>?_;cases e with
  |normal=>obtain⟨j,hj,hlt,hw⟩:=hkk;obtain⟨bs2,h1,h2⟩:=hrs.fh hw hext hm;exact⟨j,⟨bs2,hj,h1,h2,hd.trans hd1⟩,hlt⟩
  |ret=>exact hq .ret s' bs' a' w' hkk hrs hext (hd.trans hd1)|exit q=>exact hq (.exit q) s' bs' a' w' hkk hrs hext<|hd.trans hd1
theorem HK {H:Hz}{n:Nat}:∀{l:List AVal},A8 0 l=true→FzL H n l l
 | [],_=>trivial
 |v::r,h=>by
  simp only[A8]at h;cases hv:blw 0 v with
  |false=>rw[hv]at h;cases h
  |true=>rw[hv]at h;exact⟨Aq hv,HK h⟩
section
variable {H : Hz} {n k id off len len' T : Nat} {c : Option Nat} {i : IntKind} {x y : Int} {cs : List AVal} {op : Bool}
theorem frS (h:A8 0 cs=true):FrO H n (.cells T cs op) (.cells T cs op):=⟨cs,Z,HK h⟩
theorem Gy (h:id<n)(e:len=len'):FzV H n (.hsl k id off len c) (.hsl k id off len' c):=by grind[D3]
theorem I7 (h:x=y):FzV H n (.int i x) (.int i y):=by subst h;exact fvI
end
theorem ExM.lpC {P:Program}{W0:World}{m:Nat}{c y:ACode}(st:Nat→St)(n:Nat){id:Nat}{s:St}{K:Aj→St→Prop}(h0:Fh m (st 0) s)
 (r:∀j,j<n→ExM P W0 m c (st j) (hoK m st (λi=>i≤n) (λi=>n-i) j id (λ_:Unit=>st n) (λ_=>True) K)) (e:ExM P W0 m c (st n)<|hoK m st (λi=>i≤n) (λi=>n-i) n id (λ_:Unit=>st n) (λ_=>True) K) (rest:ExM P W0 m y (st n) K):ExM P W0 m (.loop c) s (iK id<|sK P W0 m y K):=
 ExM.lpH st (λi=>i≤n) (λi=>n-i) 0 (λ_=>st n) (λ_=>True) h0 (Nat.zero_le _) (λi hi=>by
  by_cases h:i<n;·exact r i h
  ·obtain rfl:i=n:=Nat.le_antisymm hi (Nat.le_of_not_lt h)
   exact e) λ_ _=>rest
section
variable {m n j id : Nat} {st : Nat → St} {K : Aj → St → Prop} {s : St}
theorem lcN (h:Fh m (st<|j+1) s)(hj:j<n:=by assumption):hoK m st (λi=>i≤n) (λi=>n-i) j id (λ_:Unit=>st n) (λ_=>True) K .normal s:=hoN (j+1) hj (Nat.sub_lt_sub_left hj<|Nat.lt_succ_self j) h
theorem lcE (h:Fh m (st n) s):hoK m st (λi=>i≤n) (λi=>n-i) j id (λ_:Unit=>st n) (λ_=>True) K (.exit id) s:=hoE () O h
end
def pch (v:Value):List PanicEntry:=[{v,recovered:=false}]
def J5 (P:Program)(W0:World)(f:FuncId)(args:List AVal)(H:Hz)(v:AVal)(H':Hz):Prop:=
 E1 P f∧∀(F:Nat→Prop) (bs:List Nat) (w:World) (cargs:List Value),Ae W0 F bs H w→Ab F bs H w args cargs→
  Calls P f cargs.toArray w λe w'=>∃cv bs',e= .panicked (pch cv)∧Rep F bs' H' w' v cv∧Ae W0 F bs' H' w'∧Ext bs H w bs' H' w'
def ExP (P:Program)(W0:World)(m:Nat)(a:ACode)(s:St)(v:AVal)(K:St→Prop):Prop:=
 ∀c,Bo P c=some a→∀(F:Nat→Prop) (bs:List Nat) (x:Act) (w:World),RS W0 F bs s x w→∀(bs0:List Nat) (H0:Hz) (w0:World),N H0=m→Ext bs0 H0 w0 bs s.H w→∀Q:Exit→Act→World→Prop,
  (∀cv s' bs' a' w',K s'→RS W0 F bs' s' a' w'→Rep F bs' s'.H w' v cv→Ext bs0 H0 w0 bs' s'.H w'→a'.defers=x.defers→Q (.panic<|pch cv) a' w')→c.wp P Q x w
section
variable {P : Program} {W0 : World} {G : List (Nat × AVal)} {m : Nat} {v : AVal} {K : St → Prop}
theorem ExP.seqL {x y:ACode}{s:St}(h:ExP P W0 m x s v K):ExP P W0 m (.seq x y) s v K:=λc hc=>by obtain⟨a,b,rfl,ha,hb⟩:=Pv hc;intro F bs x w hs bs0 H0 w0 hm he Q hq;exact wp_seq<|h a ha F bs x w hs bs0 H0 w0 hm he _ λcv s' bs' a' w' h1 h2 h3 h4 h5=>hq cv s' bs' a' w' h1 h2 h3 h4 h5
theorem ExP.seqR {x y:ACode}{s:St}(h:ExM P W0 m x s λe s'=>e= .normal∧ExP P W0 m y s' v K):ExP P W0 m (.seq x y) s v K:=λc hc=>by obtain⟨a,b,rfl,ha,hb⟩:=Pv hc;intro F bs x w hs bs0 H0 w0 hm he Q hq;refine wp_seq<|h a ha F bs x w hs bs0 H0 w0 hm he _ λe s' bs' a' w' hk hrs hext hd=>?_;obtain⟨rfl,hk⟩:=hk;exact hk b hb F bs' a' w' hrs bs0 H0 w0 hm hext Q λcv s2 bs2 a2 w2 h1 h2 h3 h4 h5=>hq cv s2 bs2 a2 w2 h1 h2 h3 h4<|h5.trans hd
theorem ExP.condT (hg:Gr P W0 G){s:St}{c:AOpd}{x y:ACode}(hv:ev G s c=some (.bool true))(ht:ExP P W0 m x s v K):ExP P W0 m (.cond c x y) s v K:=λk hk=>by obtain⟨p,a,d,rfl,hp,ha,hd⟩:=Nl hk;intro F bs x w hs bs0 H0 w0 hm he Q hq;exact wp_cond_split (t:=true) (by have:=Bd hg.g hs hp hv;grind[Rep]) (λ_=>ht a ha F bs x w hs bs0 H0 w0 hm he Q hq) (λh=>by cases h)
theorem ExP.condF (hg:Gr P W0 G){s:St}{c:AOpd}{x y:ACode}(hv:ev G s c=some (.bool false))(ht:ExP P W0 m y s v K):ExP P W0 m (.cond c x y) s v K:=λk hk=>by obtain⟨p,a,d,rfl,hp,ha,hd⟩:=Nl hk;intro F bs x w hs bs0 H0 w0 hm he Q hq;exact wp_cond_split (t:=false) (by have:=Bd hg.g hs hp hv;grind[Rep]) (λh=>by cases h)<|λ_=>ht d hd F bs x w hs bs0 H0 w0 hm he Q hq
theorem ExP.block {s:St}{id:Nat}{x:ACode}(h:ExP P W0 m x s v K):ExP P W0 m (.block id x) s v K:=λc hc=>by obtain⟨a,rfl,ha⟩:=Ou hc;intro F bs x w hs bs0 H0 w0 hm he Q hq;exact wp_block<|h a ha F bs x w hs bs0 H0 w0 hm he _ λcv s' bs' a' w' h1 h2 h3 h4 h5=>hq cv s' bs' a' w' h1 h2 h3 h4 h5
def NC (P:Program)(W0:World)(m:Nat)(c:ACode)(v:AVal)(K:St→Prop):Nat→St→Prop
 |0,_=>False|n+1,s=>ExP P W0 m c s v K∨ExM P W0 m c s λe s'=>e= .normal∧NC P W0 m c v K n s'
theorem ExP.loop {c:ACode}(n:Nat){s:St}(h:NC P W0 m c v K n s):ExP P W0 m (.loop c) s v K:=λk hk=>by
 obtain⟨k',rfl,hk'⟩:=Gl hk;intro F bs a w hs bs0 H0 w0 hm he Q hq;refine Fa (σ:=Nat) (λi a' w'=>∃s' bs',NC P W0 m c v K i s'∧RS W0 F bs' s' a' w'∧Ext bs0 H0 w0 bs' s'.H w'∧a'.defers=a.defers) id (s:=n) ⟨s,bs,h,hs,he,Z⟩ ?_;rintro i a1 w1 ⟨s1,bs1,hi,hrs1,hext1,hd1⟩;cases i with
 |zero=>exact hi.elim
 |succ i=>
  rcases hi with hi|hi;·exact hi k' hk' F bs1 a1 w1 hrs1 bs0 H0 w0 hm hext1 _ λcv s' bs' a' w' h1 h2 h3 h4 h5=>hq cv s' bs' a' w' h1 h2 h3 h4<|h5.trans hd1
  ·refine hi k' hk' F bs1 a1 w1 hrs1 bs0 H0 w0 hm hext1 _ λe s' bs' a' w' hkk hrs hext hd=>?_;obtain⟨rfl,hkk⟩:=hkk;exact⟨i,⟨s',bs',hkk,hrs,hext,hd.trans hd1⟩,Nat.lt_succ_self i⟩
def Qu (P:Program)(W0:World)(m:Nat)(l:List AOper)(s:St)(v:AVal)(K:St→Prop):Prop:=
 ∀(ops:Array Oper) (i:Nat),Bh P ops (ops.toList.drop i)=some l→∀(F:Nat→Prop) (bs:List Nat) (a:Act) (w:World),RS W0 F bs s a w→∀(bs0:List Nat) (H0:Hz) (w0:World),N H0=m→Ext bs0 H0 w0 bs s.H w→∀Q:Exit→Act→World→Prop,
  (∀cv s' bs' a' w',K s'→RS W0 F bs' s' a' w'→Rep F bs' s'.H w' v cv→Ext bs0 H0 w0 bs' s'.H w'→a'.defers=a.defers→Q (.panic<|pch cv) a' w')→wpOps P ops Q (gB i<|N l) a w
theorem pCons (hg:Gr P W0 G){s:St}{o:AOper}{r:List AOper}(h:Hj P W0 G o s λs'=>Qu P W0 m r s' v K):Qu P W0 m (o::r) s v K:=λops i hc F bs a w hs bs0 H0 w0 hm he Q hq=>by
 obtain⟨x,xs,hd,hx,hxs⟩:=F3 hc;have hi:ops[i]?=some x:=by have h0:=congrArg (λl=>l[0]?) hd;grind
 have hr:ops.toList.drop (i+1)=xs:=by have:=congrArg (List.drop 1) hd;grind[fM]
 have hP:=Nq hx h;simp only[lCo,fK,wpOps,hi];refine J3 hg.g hs hP λs' bs' a' w' hk hrs hext hdf=>?_;exact hk ops (i+1) (by grind) F bs' a' w' hrs bs0 H0 w0 hm (he.trans hext) Q λcv s2 bs2 a2 w2 h1 h2 h3 h4 h5=>hq cv s2 bs2 a2 w2 h1 h2 h3 h4<|h5.trans hdf
variable {l : List (Nat × AVal)} {H : Hz} {n : Nat} {r : List AOper}
variable {H2 : Hz}
theorem K9 (hg:Gr P W0 G){g:Option (Nat×Bool)}(hgd:Gok g l){d:Nat}{op:AOp}{u:AVal}{side:List (Int×Int)}(h:aop G ⟨.al l,H,n⟩ op=some (.val u H2 side))(hd:(bB d n&&bB d 4094)=true)(hs:Ah side)(k:Qu P W0 m r ⟨.al ((d,u)::l),H2,n⟩ v K):Qu P W0 m (⟨some d,g,op⟩::r) ⟨.al l,H,n⟩ v K:=by refine pCons hg<|Lr hgd ?_;rw[h];exact⟨hs,hd,k⟩
theorem U6 {ops:Array Oper}{x:Oper}{d:Option Nat}{op:AOp}(hx:B5 P ops x=some ⟨d,none,op⟩):x.dst=d∧x.guard=none∧Au P x.op=some op:=by
 unfold B5 at hx;cases hgx:Dm ops x.guard with
 |none=>rw[hgx]at hx;cases hx
 |some gx=>
  rw[hgx]at hx;simp only at hx;cases hop:Au P x.op with
  |none=>rw[hop]at hx;cases hx
  |some o'=>
   rw[hop]at hx;injection hx with hx;injection hx with h1 h2 h3;refine⟨h1,?_,congrArg some h3⟩;subst h2;cases hg:x.guard with
   |none=>rfl
   |some gw=>
    rw[hg]at hgx;obtain⟨j,want⟩:=gw;simp only[Dm]at hgx;cases hd':(ops[j]?).bind (·.dst)with
    |none=>rw[hd']at hgx;cases hgx
    |some d'=>rw[hd']at hgx;cases hgx
theorem LT (hg:Gr P W0 G){d:Option Nat}{op:AOp}{f:Nat}{args:List AVal}(h:aop G ⟨.al l,H,n⟩ op=some (.call f args))(hc:J5 P W0 f args H v H2)(hK:K ⟨.al l,H2,n⟩):Qu P W0 m (⟨d,none,op⟩::r) ⟨.al l,H,n⟩ v K:=λops i hco F bs a w hs bs0 H0 w0 hm he Q hq=>by
 obtain⟨x,xs,hdr,hx,hxs⟩:=F3 hco;have hi:ops[i]?=some x:=by have h0:=congrArg (λl=>l[0]?) hdr;grind
 obtain⟨_,hgd,hop⟩:=U6 hx;simp only[lCo,fK,wpOps,hi];have hw:eO x (yielded ops a.tmps)=true:=JU;rw[if_pos hw];refine .inl ?_;obtain⟨cargs,h1,h2⟩:=(Ut (P:=P) hg.g hs hop h) hc.1;unfold Oper.wp;rw[h1,Oper.upon_enter];refine eU (hc.2 F bs w cargs hs.heap h2) λe w' he'=>?_;obtain⟨cv,bs',rfl,k3,k4,k5⟩:=he';exact hq cv ⟨.al l,H2,n⟩ bs' a w' hK ⟨k4,hs.size,λt u hu=>Rep.ext k5 u _<|hs.env t u hu⟩ k3 (he.trans k5) Z
theorem pPan (hg:Gr P W0 G){d:Option Nat}{x:AOpd}{T:TypeId}{u:AVal}(h:ev G ⟨.al l,H,n⟩ x=some (.iface T u))(hK:K ⟨.al l,H,n⟩):Qu P W0 m (⟨d,none,.pan x⟩::r) ⟨.al l,H,n⟩ (.iface T u) K:=λops i hco F bs a w hs bs0 H0 w0 hm he Q hq=>by
 obtain⟨o,xs,hdr,hx,hxs⟩:=F3 hco;have hi:ops[i]?=some o:=by have h0:=congrArg (λl=>l[0]?) hdr;grind
 obtain⟨_,hgd,hop⟩:=U6 hx;simp only[lCo,fK,wpOps,hi];have hw:eO o (yielded ops a.tmps)=true:=JU;rw[if_pos hw];refine .inl ?_;obtain⟨y,hy,hxy⟩:=ID hop;have hr:=Bd hg.g hs hxy h;have hr':=hr;simp only[Rep]at hr';obtain⟨u',hv,_⟩:=hr';have hexec:(execOp a.eval o).run P w= .halt (.panic<|a.eval y) w:=by simp[execOp,hy,hv,Instr.panic,goPanic]
 unfold Oper.wp;rw[hexec,Oper.upon_panic];exact hq _ ⟨.al l,H,n⟩ bs a w hK hs hr he Z
theorem ExP.ops (_hg:Gr P W0 G){l:List AOper}{s:St}(h:Qu P W0 m l s v K):ExP P W0 m (.ops l) s v K:=λc hc=>by obtain⟨id,ops,rfl,h1⟩:=Un hc;intro F bs a w hs bs0 H0 w0 hm he Q hq;have hlen:=(D4 h1).1;refine wp_region ?_;have:=h ops 0 (by grind) F bs a w hs bs0 H0 w0 hm he Q hq;grind[List.range_eq_range']
theorem J5.of_fn {f:Nat}{x:AFn}(hf:Gs P f=some x){args:List AVal}{H H':Hz}(hl:N args≤4094){n:Nat}(hn:N args+(x.n-N args)=n)
 (h:ExP P W0 (N H) x.code ⟨.al<|Ec 0 args,H,n⟩ v λs'=>s'.H=H'):J5 P W0 f args H v H':=by
 obtain⟨fn,c,h1,h2,h3,h4,h5,h6⟩:=Kt hf;refine⟨⟨fn,c,h1,h2,h5⟩,λF bs w cargs hh hr=>?_⟩;have hrs:=F8 hh hr hl fn.ntmps;have hrs':RS W0 F bs ⟨.al<|Ec 0 args,H,n⟩ {tmps:=cargs.toArray++fE (fn.ntmps-cargs.toArray.size) undef,defers:=[]} w:=
  ⟨hrs.heap,EQ,λt u hu=>hrs.env t u (by
   rw[Df args 0 .leaf t Y];have hu:lk t (Ec 0 args)=some u:=hu;rw[I5]at hu
   grind)⟩
 refine calls_of_wp h1 h2<|h c h3 F bs _ w hrs' bs H w Z (Ext.refl _ _ _) _ λcv s' bs' a' w' k1 k2 k3 k4 k5=>?_;subst k1;exact⟨k5,cv,bs',Z,k3,k2.heap,k4⟩
end
end Go.Abs
namespace Go.Abs
open Go.RowKit Go.Proofs
variable {P : Program} {W0 : World} {F : Nat → Prop} {bs : List Nat} {H : Hz} {w : World}
def MN (P:Program)(f:Nat):Bool:=match P.funcs[f]? with|some fn=>fn.body.isSome&& !(fn.name== "runtime.NumGoroutine")|none=>false
theorem F2 {f:Nat}(h:MN P f=true):E1 P f:=by
 unfold MN at h;split at h;·rename_i fn hf;simp only[bAt,fD,bFn]at h;obtain⟨c,hc⟩:=cO.1 h.1;exact⟨fn,c,hf,hc,h.2⟩
 ·cases h
theorem NK {w':World}(hb:Below w.heap.size w w')(hl:∀(i:Nat) (o:HObj),H[i]?=some o→∀b,bs[i]?=some b→b<w.heap.size):Ext bs H w bs H w':=by refine⟨hb.size,λk hk _=>hb.block k hk,λk hk=>.inl hk,λi o ho=>⟨o,ho,?_⟩⟩;cases o with|dead=>simp[Bi]|iter s p=>exact .inr ⟨s,p,rfl,rfl⟩|mp es=>exact .inr ⟨es,rfl,rfl⟩|cells T cs op=>cases op with|false=>exact .inr ⟨T,cs,rfl,rfl,rfl⟩|true=>refine .inr ⟨T,cs,Z,.inr ⟨Z,Z,λb hbb=>?_⟩⟩;have:=hb.block b<|hl i _ ho b hbb;unfold Dj;rw[this]
theorem Ae.below {w':World}(hh:Ae W0 F bs H w)(hb:Below w.heap.size w w'):Ae W0 F bs H w'∧Ext bs H w bs H w':=by
 have he:Ext bs H w bs H w':=NK hb<|λi o ho b hbb=>(hh.low b<|mGe hbb).2;have h0:W0.heap.size≤w.heap.size:=hh.base.size;refine⟨⟨hh.len,hh.base.trans ⟨hb.os,hb.tape,hb.output,hb.size,λk hk=>hb.block k Y⟩,λb hbm=>⟨(hh.low b hbm).1,nLl (hh.low b hbm).2 hb.size⟩,hh.nodup,λb hF=>⟨(hh.forb b hF).1,nLl (hh.forb b hF).2.1 hb.size,(hh.forb b hF).2.2⟩,λi o b ho hbb=>?_⟩,he⟩;have hlt:=(hh.low b<|mGe hbb).2;have hblk:=hb.block b hlt;have h1:=hh.obj i o b ho hbb;cases o with
 |dead=>trivial|iter s p=>simp only[Iy]at h1⊢;rw[hblk];exact h1|mp es=>simp only[Iy]at h1⊢;rw[hblk];exact h1
 |cells T cs op=>
  cases op with
  |false=>simp only[Iy]at h1⊢;obtain⟨vs,rest,fr,q1,q2,q3⟩:=h1;exact⟨vs,rest,fr,by grind,Ab.ext he _ _ q2,q3⟩
  |true=>simp only[Iy]at h1⊢;obtain⟨vs,rest,fr,q1,q2,q3⟩:=h1;exact⟨vs,rest,fr,by grind,Ab.ext he _ _ q2,q3⟩
theorem A5.of_below {f:Nat}{args:List AVal}{v:AVal}(hb:MN P f=true)
 (h:∀(F:Nat→Prop) (bs:List Nat) (w:World) (cargs:List Value),Ae W0 F bs H w→Ab F bs H w args cargs→Calls P f cargs.toArray w λe w'=>∃cv,e= .returned cv∧Rep F bs H w' v cv∧Below w.heap.size w w'):A5 P W0 f args H v H:=by
 refine⟨F2 hb,λF bs w cargs hh hr=>(h F bs w cargs hh hr).mono ?_⟩;rintro e w' ⟨cv,rfl,h1,h2⟩;obtain⟨k1,k2⟩:=hh.below h2;grind
theorem V4 (w:World):∀n,Below w.heap.size w (w.drewN n)
 |0=>Below.refl _ _|n+1=>(V4 w n).drew
theorem II {W w':World}(h:Below W.heap.size W w')(os:Array Obj):Below W.heap.size W (Go.Sort.grow w' os):=by refine⟨h.os,h.tape,h.output,Nat.le_trans h.size (by simp_all),λk hk=>?_⟩;rw[←h.block k hk];have:k<w'.heap.size:=nLl hk h.size;simp[Go.Sort.grow,Array.getElem?_append,this]
theorem MD (hh:Ae W0 F bs H w){g3 g4:Nat}(hT:Lib.Utf8Tabs g3 g4 W0):Lib.Utf8Tabs g3 g4 w:=Utf8Tabs_below hT hh.base
theorem W4 (hh:Ae W0 F bs H w){g:Nat}{v:Value}(h:W0.cell? ⟨g,0,none⟩=some v):w.cell? ⟨g,0,none⟩=some v:=by rw[←h];exact World.cell?_of_block (a:=⟨g,0,none⟩)<|hh.base.block g<|World.block_lt_of_cell? W0 ⟨g,0,none⟩ h
def Vi :AVal→Bool
 |.bool _|.int _ _|.str _=>true|_=>false
def expo (H:Hz):AVal→Option AVal
 |.ptr id off=>match H[id]? with
  |some (.cells _ cs false)=>match cs[off]? with
   |some c=>cond (Vi c) (some<|.eptr c 0) none|none=>none
  |_=>none
 |v=>cond (Vi v) (some v) none
def Y7 (H:Hz):List AVal→Option (List AVal)
 | []=>some []
 |v::r=>match expo H v with
  |some x=>match Y7 H r with
   |some l=>some (x::l)|none=>none
  |none=>none
theorem expo_ok (hh:Ae W0 F bs H w){v v':AVal}{cv:Value}(hv:Rep F bs H w v cv)(he:expo H v=some v'):Rep (λ_=>False) [] [] w v' cv:=by
 have flat:∀{x:AVal},Vi x=true→Rep F bs H w x cv→Rep (λ_=>False) [] [] w x cv:=by intro x hx hr;cases x<;>simp only[Vi,bFt]at hx<;>simpa only[Rep]using hr
 by_cases hp:∃id off,v= .ptr id off
 ·obtain⟨id,off,rfl⟩:=hp;simp only[expo]at he;split at he
  ·rename_i T cs ho;split at he
   ·rename_i c hc;cases hf:Vi c with
    |false=>rw[hf]at he;cases he
    |true=>
     rw[hf]at he;simp only[cond_true,iS]at he;subst he;simp only[Rep,Fe,ho]at hv;obtain⟨_,b,hb,rfl⟩:=hv;have hlow:=hh.low b<|mGe hb;obtain⟨vs,rest,fr,hcell,hl,_⟩:=hh.obj id _ b ho hb;obtain⟨u,hu,hru⟩:=Ab.get hl hc;simp only[Rep];refine⟨b,off,u,Z,?_,⟨B4,B4⟩,hlow.2,λj x hx=>?_⟩;·cases c<;>simp only[Vi,bFt]at hf<;>simpa only[Rep]using hru
     ·have hone:u.cells.toList=[u]:=by cases c<;>simp only[Vi,bFt]at hf<;>simp only[Rep]at hru<;>subst hru<;>rfl
      grind[V8]
   ·cases he
  ·cases he
 ·have:expo H v=cond (Vi v) (some v) none:=by cases v<;>first|rfl|exact absurd ⟨_,_,rfl⟩ hp
  grind
theorem FF (hh:Ae W0 F bs H w):∀{vs vs':List AVal}{cvs:List Value},Ab F bs H w vs cvs→Y7 H vs=some vs'→Ab (λ_=>False) [] [] w vs' cvs
 | [],vs',cvs,hv,he=>by grind[Y7,Ab]
 |v::r,vs',cvs,hv,he=>by
  simp only[Y7]at he;split at he
  ·rename_i x hx;split at he;·rename_i l hl;injection he with he;subst he;simp only[Ab]at hv⊢;obtain⟨u,us,rfl,h1,h2⟩:=hv;exact⟨u,us,Z,expo_ok hh h1 hx,FF hh h2 hl⟩
   ·cases he
  ·cases he
theorem Ae.none (W:World):Ae W (λ_=>False) [] [] W:=⟨rfl,Below.refl _ _,λb h=>by simp at h,List.nodup_nil,λb h=>h.elim,λi o b h=>by simp at h⟩
theorem EE {g:Nat}(h:MN P g=true):∀args w,(callFunc g args).run P w= .ok (.enter g args) w:=by obtain⟨fn,c,h1,h2,h3⟩:=F2 h;simp_all[callFunc]
theorem EF (hh:Ae W0 F bs H w){g:Nat}{caps caps':List AVal}{lb:List Value}{f:Int→Int}(hl:Ab F bs H w caps lb)(he:Y7 H caps=some caps')
 (hf:∀(W:World) (x:Nat),x≤1114111→A5 P W g (.int .i32 x::caps') [] (.int .i32<|f x) []):MapGrows P g lb.toArray f w:=by
 intro W x hx hb;have hl':=FF hh hl he;have hW:Ext ([]:List Nat) ([]:Hz) w [] [] W:=⟨hb.size,λk hk _=>hb.block k hk,λk h=>.inl h,λi o h=>by simp at h⟩;have hl2:=Ab.extF (F':=λ_=>False) hW (λ_ _ _ h=>h) caps' lb hl';have h1:=(hf W x hx).2 (λ_=>False) [] W (.int .i32 x::lb) (Ae.none W) (by grind[Ab,Rep]);have harr:(Value.int .i32 (x:Int)::lb).toArray= #[encR x]++lb.toArray:=by grind
 rw[harr]at h1;refine h1.mono ?_;rintro e w' ⟨cv,bs',rfl,k1,k2,k3⟩;simp only[Rep]at k1;subst k1;exact⟨Z,k2.base⟩
def asc (l:Bz):Bool:=l.all λb=>bB b.toNat 128
def BE (f:Int→Int)(l:Bz):Bz:=l.map λb=>(f (b.toNat:Nat)).toNat.toUInt8
theorem QB {f:Int→Int}:∀(l:Bz),asc l=true→(∀b∈l,0≤f (b.toNat:Nat)∧f (b.toNat:Nat)<128)→Lib.mapD f l=BE f l:=by
 have go:∀(n:Nat) (l:Bz),N l≤n→asc l=true→(∀b∈l,0≤f (b.toNat:Nat)∧f (b.toNat:Nat)<128)→Lib.mapGoD f n l=BE f l:=by intro n;induction n with|zero=>intro l hl _ _;have:l=[]:=List.eq_nil_of_length_eq_zero Y;subst this;rfl|succ n ih=>intro l hl ha hf;cases l with|nil=>rfl|cons b r=>simp only[asc,List.all_cons,bAt,Nat.blt_eq]at ha;have h1:=hf b B4;unfold Lib.mapGoD;rw[if_neg B4,Lib.decodeL_ascii b r ha.1,if_pos h1.1];show Lib.encodeRune (f (b.toNat:Nat))++Lib.mapGoD f n r=_;rw[ih r (by grind) ha.2<|λb hb=>hf b (by simp[hb])];simp only[BE,List.map_cons,Lib.encodeRune,Lib.encodeRuneZ_one h1.1 Y,List.map_cons,List.map_nil,List.cons_append,List.nil_append]
 intro l;exact go _ l<|bC _
def K6 :List AVal→Option (List Bz)
 | []=>some []
 |.str s::r=>match K6 r with
  |some l=>some (s::l)|none=>none
 |_=>none
theorem Zi :∀{ys:List AVal}{l:List Bz}{us:List Value},K6 ys=some l→Ab F bs H w ys us→us=l.map λs=>Value.string ⟨s.toArray⟩
 | [],l,us,h,hr=>by grind[K6,Ab]
 |y::r,l,us,h,hr=>by
  cases y<;>simp only[K6,reduceCtorEq]at h;rename_i s;split at h;·rename_i l' hl;injection h with h;subst h;simp only[Ab,Rep]at hr;obtain⟨u,us',rfl,rfl,h2⟩:=hr;rw[Zi hl h2];rfl
  ·cases h
theorem IT (hh:Ae W0 F bs H w){k:Nat}{y:AVal}{ys:List AVal}{m c:Nat}{a:Addr}(hy:Rep F bs H w y<|.slice (some a) m c)(h:Cm k H y=some (ys,m))(hm:m≠0):a.spot=none∧m≤c:=by
 cases y<;>simp only[Cm]at h<;>try (cases h;done)
 case nilSl=>grind
 case emp=>grind
 case row k' es=>
  cases hk:aA k k' with
  |false=>rw[hk]at h;cases h
  |true=>simp only[Rep]at hy;obtain⟨a',cap,vs,he,hl,hk,hrow⟩:=hy;injection he with e1 e2 e3;subst e1;subst e3;have:=hl.length;exact⟨hrow.1,by have:=hrow.2.1;omega⟩
 case hsl k' id off len cap=>
  cases hk:aA k k' with
  |false=>rw[hk]at h;cases h
  |true=>
   rw[hk]at h;have:=nBq hk;subst this;simp only[cond_true]at h;simp only[Rep]at hy;obtain⟨_,hy⟩:=hy;unfold D1 at hy;split at h;·grind
   ·rename_i T cs ho;cases hc:(aA (len*k) (N cs)&&aA off 0)with
    |false=>rw[hc]at h;cases h
    |true=>rw[hc]at h;simp only[bAt]at hc;have h1:=nBq hc.1;have h2:=nBq hc.2;subst h2;simp only[cond_true,iS,iP]at h;obtain⟨rfl,rfl⟩:=h;rw[ho]at hy;obtain⟨b,c',hb,he,hlc,_⟩:=hy.2<|λ_=>⟨rfl,h1⟩;injection he with e1 e2 e3;injection e1 with e1;subst e1;subst e3;exact⟨Z,hlc⟩
   ·cases h
def To :Bz→UInt8→Int
 | [],_=>-1|b::r,c=>cond (decide<|0≤To r c) (To r c+1)<|cond (aA b.toNat c.toNat) 0<|-1
theorem Xa (c:UInt8):∀l:Bz,(To l c=-1∧c∉l)∨∃i:Nat,To l c=i∧l[i]?=some c∧∀j,i<j→l[j]?≠some c
 | []=>.inl ⟨rfl,B4⟩
 |b::r=>by
  rcases Xa c r with⟨h1,h2⟩|⟨i,h1,h2,h3⟩
  ·simp only[To,h1];have:decide ((0:Int)≤-1)=false:=V;rw[this,cond_false];cases hb:aA b.toNat c.toNat with
   |true=>have hbc:b=c:=UInt8.toNat_inj.1<|nBq hb;subst hbc;refine .inr ⟨0,Z,B4,λj hj=>?_⟩;cases j with|zero=>omega|succ j=>simp only[eT];intro e;exact h2<|mGe e
   |false=>refine .inl ⟨Z,?_⟩;simp only[eS,not_or];refine⟨λe=>?_,h2⟩;subst e;simp at hb
  ·refine .inr ⟨i+1,?_,by grind,λj hj=>?_⟩<;>grind[To]
end Go.Abs
namespace Go.Abs
open Go.RowKit
def Ql (P:Program)(g:FuncId)(m:Nat):Prop:=∀(args:List Value) (w:World),N args=m→CallsD P g args.toArray .returning w λe u' w'=>e= .returned (.tuple #[])∧u'= .returning∧w'=w
section
variable {P : Program} {W0 : World} {G : List (Nat × AVal)} {F : Nat → Prop} {bs : List Nat} {s : St} {a : Act} {w : World}
theorem S9 (hg:GOK W0 G){id t:Nat}{g:FuncId}{ops:Array Oper}{o0 o1:Oper}(hops:ops= #[o0,o1])(h1g:o1.guard=none)(h1d:o1.dst=none)(h1c:∃c,o1.op= .defer c∧c.callee= .value (.tmp t)∧c.args= #[])
 (hs:RS W0 F bs s a w) {K:St→Prop}{m:Nat} (h0:J6 P W0 G ops o0 s λs'=>(∃c,s'.env.get t=some (.fn g [] c)∧N c=m)∧K s') {Q:Exit→Act→World→Prop}
 (hn:∀s' bs' a' w' (cap:List Value),N cap=m→K s'→RS W0 F bs' s' a' w'→Ext bs s.H w bs' s'.H w'→a'.defers=⟨.fn (.func g) cap.toArray,#[]⟩::a.defers→Q .normal a' w'):(Code.region id ops false).wp P Q a w:=by
 refine wp_region ?_;subst hops;have hr:eD (#[o0,o1]:Array Oper).size=[0,1]:=rfl;rw[hr];simp only[wpOps,List.getElem?_toArray,eV,eT];refine J3 hg hs h0 λs' bs' a' w' hk hrs hext hdf=>?_;obtain⟨⟨c,hc,hcl⟩,hK⟩:=hk;have hrep:=hrs.env t _ hc;simp only[Rep,Ab]at hrep;obtain⟨fs,cs,hv,rfl,hcs⟩:=hrep;obtain⟨cl,hop,hcal,hargs⟩:=h1c;have hw:eO o1 (yielded #[o0,o1] a'.tmps)=true:=by simp[eO,h1g]
 rw[if_pos hw];refine .inl ?_;have hexec:(execOp a'.eval o1).run P w'= .ok (.defer ⟨.fn (.func g) cs.toArray,#[]⟩) w':=by
  have hev:a'.eval (.tmp t)= .func (.func g) #[] cs.toArray:=by show a'.tmps.getD t undef=_;exact hv
  simp_all[execOp,resolve,Deferred.ofValue]
 unfold Oper.wp;rw[hexec,Oper.upon_defer];have hput:({a' with defers:=⟨.fn (.func g) cs.toArray,#[]⟩::a'.defers}:Act).put o1.dst undef={a' with defers:=⟨.fn (.func g) cs.toArray,#[]⟩::a'.defers}:=by rw[h1d];rfl
 rw[hput];refine hn s' bs' _ w' cs (by rw[hcs.length,hcl]) hK ⟨hrs.heap,hrs.size,hrs.env⟩ hext ?_;grind
theorem A5.of_defer (hg:GOK W0 G){f:FuncId}{fn:Func}{r0 r1 rest:Code}{id t:Nat}{g:FuncId}{ops:Array Oper}{o0 o1:Oper}(hf:P.funcs[f]?=some fn)(hb:fn.body=some (.seq r0<|.seq r1<|.seq (.region id ops false) rest))
 (hnm:fn.name≠ "runtime.NumGoroutine") {m:Nat} (hidle:Ql P g m) (hgb:E1 P g)
 (hops:ops= #[o0,o1]) (h1g:o1.guard=none) (h1d:o1.dst=none) (h1c:∃c,o1.op= .defer c∧c.callee= .value (.tmp t)∧c.args= #[])
 {args:List AVal}{H:Hz}{v:AVal}{H':Hz} (hl:N args≤4094)
 (h:Ex P W0 r0 ⟨Gg 0 args .leaf,H,N args+(fn.ntmps-N args)⟩ λe s0=>e= .normal∧Ex P W0 r1 s0 λe s1=>e= .normal∧J6 P W0 G ops o0 s1 λs2=>(∃c,s2.env.get t=some (.fn g [] c)∧N c=m)∧
  Ex P W0 rest s2 λe s'=>(match e with|.exit _=>False|_=>True)∧∃vs,Dk P s' fn.results.toList=some vs∧(Ls (N H) (Cb vs) s'.H=(v,H')∨(Cb vs,s'.H)=(v,H'))):
 A5 P W0 f args H v H':=by
 refine⟨⟨fn,_,hf,hb,hnm⟩,λF bs w cargs hh hr=>?_⟩;refine calls_of_wp_defers hf hb ?_;refine wp_seq<|h F bs _ w (F8 hh hr hl fn.ntmps) _ λe s0 bs0 a0 w0 hk hrs0 hext0 hd0=>?_;obtain⟨rfl,hk⟩:=hk;show(Code.seq r1 _).wp P _ a0 w0;refine wp_seq<|hk F bs0 a0 w0 hrs0 _ λe s1 bs1 a1 w1 hk hrs1 hext1 hd1=>?_;obtain⟨rfl,hk⟩:=hk;show(Code.seq _ rest).wp P _ a1 w1;refine wp_seq<|S9 hg hops h1g h1d h1c hrs1 hk λs2 bs2 a2 w2 cap hcap hk hrs2 hext2 hd2=>?_;show rest.wp P _ a2 w2;refine hk F bs2 a2 w2 hrs2 _ λe s' bs' a' w' hk hrs hext hd=>?_;obtain⟨hne,vs,hvs,hlv⟩:=hk;obtain⟨cv,h1,h2⟩:=Es hrs hvs;have hextA:Ext bs H w bs' s'.H w':=((hext0.trans hext1).trans hext2).trans hext;have hlast:∃bs'',Rep F bs'' H' w' v cv∧Ae W0 F bs'' H' w'∧Ext bs H w bs'' H' w':=by
  rcases hlv with hlv|hlv;·obtain⟨bs'',h3,h4,h5⟩:=Rk hrs.heap hextA h2;grind
  ·injection hlv with e1 e2;subst e1;subst e2;exact⟨bs',h2,hrs.heap,hextA⟩
 obtain⟨bs'',h3,h4,h5⟩:=hlast;have hdef:a'.defers=[⟨.fn (.func g) cap.toArray,#[]⟩]:=by grind
 have hinv:(invoke (.fn (.func g) cap.toArray) #[]).run P w'= .ok (.enter g cap.toArray) w':=by obtain⟨fg,cg,k1,k2,k3⟩:=hgb;show(callFunc g<|#[]++cap.toArray).run P w'=_;simp_all[callFunc]
 have fin:Leaves P fn a'.tmps (λe w'=>∃cv bs',e= .returned cv∧Rep F bs' H' w' v cv∧Ae W0 F bs' H' w'∧Ext bs H w bs' H' w') a'.defers .returning w':=by rw[hdef];refine⟨by simp,.func g,cap.toArray,g,cap.toArray,rfl,hinv,?_⟩;refine(hidle cap w' hcap).mono ?_;rintro e u' w'' ⟨rfl,rfl,rfl⟩;exact⟨cv,h1,cv,bs'',rfl,h3,h4,h5⟩
 cases e with|normal=>exact fin|ret=>exact fin|exit id=>exact hne.elim
theorem A5.of_defer1 (hg:GOK W0 G){f:FuncId}{fn:Func}{r0 rest:Code}{id t:Nat}{g:FuncId}{ops:Array Oper}{o0 o1:Oper}(hf:P.funcs[f]?=some fn)(hb:fn.body=some (.seq r0<|.seq (.region id ops false) rest))
 (hnm:fn.name≠ "runtime.NumGoroutine") {m:Nat} (hidle:Ql P g m) (hgb:E1 P g)
 (hops:ops= #[o0,o1]) (h1g:o1.guard=none) (h1d:o1.dst=none) (h1c:∃c,o1.op= .defer c∧c.callee= .value (.tmp t)∧c.args= #[])
 {args:List AVal}{H:Hz}{v:AVal}{H':Hz} (hl:N args≤4094)
 (h:Ex P W0 r0 ⟨Gg 0 args .leaf,H,N args+(fn.ntmps-N args)⟩ λe s1=>e= .normal∧J6 P W0 G ops o0 s1 λs2=>(∃c,s2.env.get t=some (.fn g [] c)∧N c=m)∧
  Ex P W0 rest s2 λe s'=>(match e with|.exit _=>False|_=>True)∧∃vs,Dk P s' fn.results.toList=some vs∧(Ls (N H) (Cb vs) s'.H=(v,H')∨(Cb vs,s'.H)=(v,H'))):
 A5 P W0 f args H v H':=by
 refine⟨⟨fn,_,hf,hb,hnm⟩,λF bs w cargs hh hr=>?_⟩;refine calls_of_wp_defers hf hb ?_;refine wp_seq<|h F bs _ w (F8 hh hr hl fn.ntmps) _ λe s1 bs1 a1 w1 hk hrs1 hext1 hd1=>?_;obtain⟨rfl,hk⟩:=hk;show(Code.seq _ rest).wp P _ a1 w1;refine wp_seq<|S9 hg hops h1g h1d h1c hrs1 hk λs2 bs2 a2 w2 cap hcap hk hrs2 hext2 hd2=>?_;show rest.wp P _ a2 w2;refine hk F bs2 a2 w2 hrs2 _ λe s' bs' a' w' hk hrs hext hd=>?_;obtain⟨hne,vs,hvs,hlv⟩:=hk;obtain⟨cv,h1,h2⟩:=Es hrs hvs;have hextA:Ext bs H w bs' s'.H w':=(hext1.trans hext2).trans hext;have hlast:∃bs'',Rep F bs'' H' w' v cv∧Ae W0 F bs'' H' w'∧Ext bs H w bs'' H' w':=by
  rcases hlv with hlv|hlv;·obtain⟨bs'',h3,h4,h5⟩:=Rk hrs.heap hextA h2;grind
  ·injection hlv with e1 e2;subst e1;subst e2;exact⟨bs',h2,hrs.heap,hextA⟩
 obtain⟨bs'',h3,h4,h5⟩:=hlast;have hdef:a'.defers=[⟨.fn (.func g) cap.toArray,#[]⟩]:=by grind
 have hinv:(invoke (.fn (.func g) cap.toArray) #[]).run P w'= .ok (.enter g cap.toArray) w':=by obtain⟨fg,cg,k1,k2,k3⟩:=hgb;show(callFunc g<|#[]++cap.toArray).run P w'=_;simp_all[callFunc]
 have fin:Leaves P fn a'.tmps (λe w'=>∃cv bs',e= .returned cv∧Rep F bs' H' w' v cv∧Ae W0 F bs' H' w'∧Ext bs H w bs' H' w') a'.defers .returning w':=by rw[hdef];refine⟨by simp,.func g,cap.toArray,g,cap.toArray,rfl,hinv,?_⟩;refine(hidle cap w' hcap).mono ?_;rintro e u' w'' ⟨rfl,rfl,rfl⟩;exact⟨cv,h1,cv,bs'',rfl,h3,h4,h5⟩
 cases e with|normal=>exact fin|ret=>exact fin|exit id=>exact hne.elim
end
structure DB where
 r0:Code
 r1:Code
 id:Nat
 o0:Oper
 o1:Oper
 rest:Code
 t:Nat
 g:Nat
 m:Nat
def CS (t:Nat)(o:Oper):Bool:=
 match o.op with
 |.defer c=>match c.callee with
  |.value (.tmp u)=>aA t u&&aA c.args.size 0|_=>false
 |_=>false
def X2 (idle:Nat→Option Nat)(r0 r1:Code)(id:Nat)(rest:Code):List Oper→Option DB
 | [o0,o1]=>match o0.op with
  |.makeFunc (.func g) _ _=>match o0.dst with
   |some t=>match o1.guard with
    |none=>match o1.dst with
     |none=>match idle g with
      |some m=>cond (CS t o1) (some ⟨r0,r1,id,o0,o1,rest,t,g,m⟩) none|none=>none
     |some _=>none
    |some _=>none
   |none=>none
  |_=>none
 |_=>none
def Q4 (idle:Nat→Option Nat):Code→Option DB
 |.seq r0 (.seq r1<|.seq (.region id ops false) rest)=>X2 idle r0 r1 id rest ops.toList|_=>none
def Yo (idle:Nat→Option Nat):Code→Option DB
 |.seq r0 (.seq (.region id ops false) rest)=>X2 idle r0 .skip id rest ops.toList|_=>none
def RX (P:Program)(G:List<|Nat×AVal)(call:CallF)(draw:Array Oper→St→Option St)(fuel:Nat)(b:DB)(s:St):Option (Aj×St):=
 match W3 P G call draw fuel b.r0 s with
 |some (.normal,s1)=>match DT P G call #[b.o0,b.o1] b.o0 s1 with
  |some s2=>cond (match s2.env.get b.t with
   |some (.fn g' [] c)=>aA b.g g'&&aA (N c) b.m|_=>false) (W3 P G call draw fuel b.rest s2) none
  |none=>none
 |_=>none
def NF (e:Env)(t g m:Nat):Bool:=match e.get t with|some (.fn g' [] c)=>aA g g'&&aA (N c) m|_=>false
def QA (P:Program)(fn:Func)(kp:Bool)(H:Hz):Option (Aj×St)→Option (AVal×Hz)
 |some (e,s)=>match e with
  |.exit _=>none
  |_=>match Dk P s fn.results.toList with
   |some vs=>some (cond kp (Cb vs,s.H)<|Ls (N H) (Cb vs) s.H)|none=>none
 |none=>none
def runDB (P:Program)(G:List<|Nat×AVal)(call:CallF)(draw:Array Oper→St→Option St)(fuel:Nat)(b:DB)(s:St):Option (Aj×St):=
 match W3 P G call draw fuel b.r0 s with
 |some (.normal,s0)=>match W3 P G call draw fuel b.r1 s0 with
  |some (.normal,s1)=>match DT P G call #[b.o0,b.o1] b.o0 s1 with
   |some s2=>cond (NF s2.env b.t b.g b.m) (W3 P G call draw fuel b.rest s2) none|none=>none
  |_=>none
 |_=>none
def J1 (P:Program)(G:List<|Nat×AVal)(keep:Nat→Bool)(idle:Nat→Option Nat)(tab:CallF)(draw:CallF→Array Oper→St→Option St)(fuel:Nat):Nat→CallF
 |0,_,_,_=>none
 |d+1,f,args,H=>match tab f args H with
  |some r=>some r
  |none=>match P.funcs[f]? with
   |some fn=>match fn.body with
    |some c=>cond (bK (N args) 4094&& !(fn.name== "runtime.NumGoroutine")) (QA P fn (keep f) H (match Q4 idle c with
     |some b=>runDB P G (J1 P G keep idle tab draw fuel d) (draw<|J1 P G keep idle tab draw fuel d) fuel b ⟨Gg 0 args .leaf,H,N args+(fn.ntmps-N args)⟩
     |none=>match Yo idle c with
      |some b=>RX P G (J1 P G keep idle tab draw fuel d) (draw (J1 P G keep idle tab draw fuel d)) fuel b ⟨Gg 0 args .leaf,H,N args+(fn.ntmps-N args)⟩|none=>W3 P G (J1 P G keep idle tab draw fuel d) (draw (J1 P G keep idle tab draw fuel d)) fuel c ⟨Gg 0 args .leaf,H,N args+(fn.ntmps-N args)⟩)) none
    |none=>none
   |none=>none
theorem Yn {idle:Nat→Option Nat}{r0 r1:Code}{id:Nat}{rest:Code}{l:List Oper}{b:DB}(h:X2 idle r0 r1 id rest l=some b):
 b.r0=r0∧b.r1=r1∧b.id=id∧b.rest=rest∧l=[b.o0,b.o1]∧b.o1.guard=none∧b.o1.dst=none∧(∃c,b.o1.op= .defer c∧c.callee= .value (.tmp b.t)∧c.args= #[])∧idle b.g=some b.m:=by
 unfold X2 at h;split at h
 ·rename_i o0 o1;split at h
  ·split at h
   ·rename_i t _;split at h
    ·rename_i hg;split at h
     ·rename_i hd;split at h
      ·rename_i m hm;cases hc:CS t o1 with
       |false=>rw[hc]at h;cases h
       |true=>
        rw[hc,cond_true]at h;injection h with h;subst h;refine⟨rfl,rfl,rfl,rfl,rfl,hg,hd,?_,hm⟩;unfold CS at hc;split at hc;·rename_i c hop;split at hc<;>simp_all
        ·cases hc
      ·cases h
     ·cases h
    ·cases h
   ·cases h
  ·cases h
 ·cases h
theorem Rn {P:Program}{W0:World}{G:List (Nat×AVal)}(hg:GOK W0 G){idle:Nat→Option Nat}(hi:∀g m,idle g=some m→Ql P g m∧E1 P g){tab:CallF}(ht:En P W0 tab){draw:CallF→Array Oper→St→Option St}
 (hdr:∀call,En P W0 call→HX P W0 (draw call)) {keep:Nat→Bool} (fuel:Nat):∀d,En P W0<|J1 P G keep idle tab draw fuel d
 |0,_,_,_,_,_,h=>by cases h
 |d+1,f,args,H,v,H',h=>by
  have ih:=Rn hg hi ht hdr (keep:=keep) fuel d;simp only[J1]at h;split at h;·rename_i r hr;injection h with h;subst h;exact ht _ _ _ _ _ hr
  ·split at h
   ·rename_i fn hfn;split at h
    ·rename_i c hc;cases hla:(bK (N args) 4094&& !(fn.name== "runtime.NumGoroutine"))with
     |false=>rw[hla]at h;cases h
     |true=>
      rw[hla,cond_true]at h;simp only[bAt,fD,bFn]at hla;have hlen:=aO hla.1;have post:∀{e:Aj}{s:St},QA P fn (keep f) H (some (e,s))=some (v,H')→(match e with|.exit _=>False|_=>True)∧∃vs,Dk P s fn.results.toList=some vs∧(Ls (N H) (Cb vs) s.H=(v,H')∨(Cb vs,s.H)=(v,H')):=by intro e s h;unfold QA at h;grind
      split at h
      ·rename_i b hb;have hsh:∃r0 r1 id ops rest,c= .seq r0 (.seq r1<|.seq (.region id ops false) rest)∧X2 idle r0 r1 id rest ops.toList=some b:=by unfold Q4 at hb;grind
       obtain⟨r0,r1,id,ops,rest,rfl,hb⟩:=hsh;obtain⟨k1,k2,k3,k4,k5,k6,k7,k8,k9⟩:=Yn hb;obtain⟨hidle,hgb⟩:=hi _ _ k9;subst k1;subst k2;subst k3;subst k4;have hops:ops= #[b.o0,b.o1]:=by grind
       unfold runDB at h;split at h
       ·rename_i s0 he0;split at h
        ·rename_i s1 he1;split at h
         ·rename_i s2 he2;cases hfa:NF s2.env b.t b.g b.m with
          |false=>rw[hfa]at h;cases h
          |true=>
           rw[hfa,cond_true]at h;cases hex:W3 P G (J1 P G keep idle tab draw fuel d) (draw<|J1 P G keep idle tab draw fuel d) fuel b.rest s2 with
           |none=>rw[hex]at h;cases h
           |some es=>
            obtain⟨e,s⟩:=es;rw[hex]at h;refine A5.of_defer hg hfn hc hla.2 hidle hgb hops k6 k7 k8 hlen<|(Ns hg ih (hdr _ ih) fuel he0).mono ?_;rintro e1 s1' ⟨rfl,rfl⟩;refine⟨rfl,(Ns hg ih (hdr _ ih) fuel he1).mono ?_⟩;rintro e1 s1' ⟨rfl,rfl⟩;refine⟨rfl,?_⟩;rw[hops];refine DE ih he2 ⟨?_,(Ns hg ih (hdr _ ih) fuel hex).mono ?_⟩;·unfold NF at hfa;split at hfa<;>simp_all
            ·grind
         ·cases h
        ·cases h
       ·cases h
      ·split at h
       ·rename_i b hb;have hsh:∃r0 id ops rest,c= .seq r0 (.seq (.region id ops false) rest)∧X2 idle r0 .skip id rest ops.toList=some b:=by unfold Yo at hb;grind
        obtain⟨r0,id,ops,rest,rfl,hb⟩:=hsh;obtain⟨k1,k2,k3,k4,k5,k6,k7,k8,k9⟩:=Yn hb;obtain⟨hidle,hgb⟩:=hi _ _ k9;subst k1;subst k3;subst k4;have hops:ops= #[b.o0,b.o1]:=by grind
        unfold RX at h;split at h
        ·rename_i s1 he1;split at h
         ·rename_i s2 he2;split at h
          ·rename_i g' c' hget;cases hfa:(aA b.g g'&&aA (N c') b.m)with
           |false=>rw[hfa]at h;cases h
           |true=>
            rw[hfa,cond_true]at h;cases hex:W3 P G (J1 P G keep idle tab draw fuel d) (draw<|J1 P G keep idle tab draw fuel d) fuel b.rest s2 with
            |none=>rw[hex]at h;cases h
            |some es=>
             obtain⟨e,s⟩:=es;rw[hex]at h;refine A5.of_defer1 hg hfn hc hla.2 hidle hgb hops k6 k7 k8 hlen<|(Ns hg ih (hdr _ ih) fuel he1).mono ?_;rintro e1 s1' ⟨rfl,rfl⟩;refine⟨rfl,?_⟩;rw[hops];refine DE ih he2 ⟨?_,(Ns hg ih (hdr _ ih) fuel hex).mono ?_⟩;·simp_all
             ·grind
          ·cases h
         ·cases h
        ·cases h
       ·cases hex:W3 P G (J1 P G keep idle tab draw fuel d) (draw<|J1 P G keep idle tab draw fuel d) fuel c ⟨Gg 0 args .leaf,H,N args+(fn.ntmps-N args)⟩with
        |none=>rw[hex]at h;cases h
        |some es=>obtain⟨e,s⟩:=es;rw[hex]at h;refine A5.of_ex hfn hc hla.2 hlen<|(Ns hg ih (hdr _ ih) fuel hex).mono ?_;rintro e1 s1 ⟨rfl,rfl⟩;exact post h
    ·cases h
   ·cases h
mutual
theorem DA : ∀ (a : AVal), ren id a = a
  | .bool _ => rfl
  | .int _ _ => rfl
  | .str _ => rfl
  | .agg cs => by simp only [ren, L4 cs]
  | .tup cs => by simp only [ren, L4 cs]
  | .nilSl => rfl
  | .emp => rfl
  | .row k es => by simp only [ren, L4 es]
  | .hsl _ _ _ _ _ => rfl
  | .nilPtr => rfl
  | .ptr _ _ => rfl
  | .optr _ _ _ => rfl
  | .eptr e _ => by simp only [ren, DA e]
  | .fn f a c => by simp only [ren, L4 a, L4 c]
  | .nilFn => rfl
  | .nilMp => rfl
  | .iface t x => by simp only [ren, DA x]
  | .nilIf => rfl
  | .mref _ => rfl
theorem L4 : ∀ (l : List AVal), F9 id l = l
  | [] => rfl
  | a :: l => by simp only [F9, DA a, L4 l]
end
theorem LK (o:HObj):G7 id o=o:=by cases o<;>grind[G7,L4]
theorem ES (l:Hz):l.map (G7 id)=l:=by induction l<;>grind[LK]
theorem Jw.frame {P:Program}{W0:World}{wr:Value→Ending}{f:FuncId}{args:List AVal}{H0 H0':Hz}{v:AVal}(hbH:B7 (N H0) H0=true)(hba:A8 (N H0) args=true)(hl:N H0'=N H0)(hc:Jw P W0 wr f args H0 v H0')(X:Hz):Jw P W0 wr f args (H0++X) v (H0'++X):=by
 have hs:Sel (eD<|N H0) (N H0) H0 (H0++X) id:=by refine⟨List.nodup_range,B4,Z,λj hj=>by simp[hj],λi hi=>?_,λj o ho=>?_⟩;all_goals grind[LK]
 have h:=Jw.ren (eD<|N H0) id hs hbH hba hl hc;rw[L4,DA,ES]at h;have he:Ei (eD<|N H0) H0' (H0++X)=H0'++X:=by
  apply List.ext_getElem?;intro i;by_cases hi:i<N H0
  ·have hi':i<N H0':=by omega
   rw[List.getElem?_append_left hi',gGe hi'];exact Ig _ _ _ i i _ List.nodup_range (by simp[hi]) (gGe hi') Jo
  grind[Il]
 grind
theorem A5.frame {P:Program}{W0:World}{f:FuncId}{args:List AVal}{H0 H0':Hz}{v:AVal}(hbH:B7 (N H0) H0=true)(hba:A8 (N H0) args=true)(hl:N H0'=N H0)(hc:A5 P W0 f args H0 v H0')(X:Hz):A5 P W0 f args (H0++X) v (H0'++X):=Jw.frame (wr:=.returned) hbH hba hl hc X
inductive Ob where
 |eq (b c:Bool)|le (a b:Int)|call (f:Nat) (args:List AVal) (v:AVal)|callH (f:Nat) (args:List AVal) (H:Hz) (v:AVal) (H':Hz)|hp (A B:Hz)|veq (a b:AVal)
def Ob.ok (P:Program)(W0:World):Ob→Prop
 |.eq b c=>b=c|.le a b=>a≤b|.call f args v=>A5 P W0 f args [] v []|.callH f args H v H'=>A5 P W0 f args H v H'|.hp A B=>A=B|.veq a b=>a=b
structure SS where
 k:Nat
 br:List (Bool×Nat)
 sk:Nat
 sd:List Nat
 ans:List (AVal×Option Hz)
 dr:List Nat
 obs:List Ob
def decS (b:Bool)(ss:SS):Option (Bool×SS):=
 match ss.k with
 |0=>match ss.br with
  |(c,n)::r=>some (c,⟨n,r,ss.sk,ss.sd,ss.ans,ss.dr,.eq b c::ss.obs⟩)| []=>none
 |n+1=>some (b,⟨n,ss.br,ss.sk,ss.sd,ss.ans,ss.dr,ss.obs⟩)
def EA :List (Int×Int)→List Ob→List Ob
 | [],l=>l|p::r,l=>.le p.1 p.2::EA r l
def TV (side:List<|Int×Int)(ss:SS):Option SS:=
 match side with
 | []=>some ss
 |_=>match ss.sk with
  |0=>match ss.sd with
   |n::r=>some ⟨ss.k,ss.br,n,r,ss.ans,ss.dr,EA side ss.obs⟩| []=>none
  |n+1=>cond (Qn side) (some ⟨ss.k,ss.br,n,ss.sd,ss.ans,ss.dr,ss.obs⟩) none
abbrev CallS :=FuncId→List AVal→Hz→SS→Option (AVal×Hz×SS)
def PI :AOp→Bool
 |.bin op _ _ _=>match op with
  |.eql|.neq|.lss|.leq|.gtr|.geq=>true|_=>false
 |.eqs _ _ _ _=>true|_=>false
def GP (call:CallS)(cmp:Bool)(H:Hz)(ss:SS):Option ARes→Option (AVal×Hz×SS)
 |some (.val v H' side)=>match TV side ss with
  |some s1=>cond cmp (match v with
   |.bool b=>match decS b s1 with
    |some (c,s2)=>some (.bool c,H',s2)|none=>none
   |_=>none) (some (v,H',s1))
  |none=>none
 |some (.skip H')=>some (.tup [],H',ss)|some (.call f args)=>call f args H ss|none=>none
def AT (P:Program)(G:List<|Nat×AVal)(call:CallS)(ops:Array Oper)(o:Oper)(s:St)(ss:SS):Option (St×SS):=
 match D9 ops s o.guard with
 |some true=>match Au P o.op with
  |some op=>match GP call (PI op) s.H ss (aop G s op)with
   |some (v,H',s1)=>match s.put o.dst v H' with
    |some t=>some (t,s1)|none=>none
   |none=>none
  |none=>none
 |some false=>match s.put o.dst (.tup []) s.H with
  |some t=>some (t,ss)|none=>none
 |none=>none
def Rq (P:Program)(G:List<|Nat×AVal)(call:CallS)(ops:Array Oper):List Oper→St→SS→Option (St×SS)
 | [],s,ss=>some (s,ss)
 |o::r,s,ss=>match AT P G call ops o s ss with
  |some (t,s1)=>Rq P G call ops r t s1|none=>none
def KL (G:List<|Nat×AVal)(call:CallS)(o:AOper)(s:St)(ss:SS):Option (AVal×Hz×SS):=
 match o.guard with
 |none=>GP call (PI o.op) s.H ss<|aop G s o.op
 |some (d,want)=>match s.env.get d with
  |some (.bool b)=>cond (cond b want<|not want) (GP call (PI o.op) s.H ss<|aop G s o.op) (some (.tup [],s.H,ss))|some (.tup [])=>some (.tup [],s.H,ss)|_=>none
def OI (G:List<|Nat×AVal)(call:CallS)(p:SP)(n:Nat):List AOper→Nat→Env→Nat→Hz→HMap→SS→Option (List Tr×HMap×Env×SS)
 | [],_,e,_,_,M,ss=>some ([],M,e,ss)
 |o::r,j,e,σ,H,M,ss=>match E7 o.dst n with
  |true=>match KL G call o ⟨e,H,n⟩ ss with
   |some (v,H',s1)=>match p.eff j with
    |true=>match lkH (eR σ j) M with
     |none=>match OI G call p n r (j+1) (Ep o.dst v e) (eR σ j) H' ((eR σ j,H')::M) s1 with
      |some (l,rest)=>some (⟨e,v,σ⟩::l,rest)|none=>none
     |some _=>none
    |false=>match OI G call p n r (j+1) (Ep o.dst v e) σ H M s1 with
     |some (l,rest)=>some (⟨e,v,σ⟩::l,rest)|none=>none
   |none=>none
  |false=>none
def SS.ob (ss:SS)(o:Ob):SS:=⟨ss.k,ss.br,ss.sk,ss.sd,ss.ans,ss.dr,o::ss.obs⟩
def SS.drop (ss:SS):SS:=⟨ss.k,ss.br,ss.sk,ss.sd,ss.ans,ss.dr.tail,ss.obs⟩
def Tn (G:List<|Nat×AVal)(call:CallS)(n:Nat)(o:AOper)(t:Tr)(σ j:Nat)(M:HMap)(ss:SS):Option (HMap×SS):=
 match lkH σ M with
 |some H=>match KL G call o ⟨t.env,H,n⟩ ss with
  |some (v,H',s1)=>match lkH (eR σ j) M with
   |some H''=>some (M,(s1.ob<|.hp H' H'').ob<|.veq v t.v)|none=>some ((eR σ j,H')::M,s1.ob<|.veq v t.v)
  |none=>none
 |none=>none
def Ly (t:Tr)(σ j:Nat)(M:HMap)(ss:SS):Option (HMap×SS):=
 match lkH σ M with
 |some H=>match lkH t.σ M with
  |some Ht=>match lkH (eR t.σ j) M with
   |some Ht'=>match lkH (eR σ j) M with
    |some H''=>some (M,(ss.ob<|.hp Ht' H'').ob<|.hp Ht H)|none=>some ((eR σ j,Ht')::M,ss.ob<|.hp Ht H)
   |none=>none
  |none=>none
 |none=>none
def BR (G:List<|Nat×AVal)(e:Env)(n:Nat):AOp→Option (Nat×List AVal)
 |.call f az'=>match ev G ⟨e,[],n⟩ f with
  |some (.fn g first cap)=>match evs G ⟨e,[],n⟩ az' with
   |some l=>some (g,first++l++cap)
   |none=>none
  |_=>none
 |_=>none
def Jr (G:List<|Nat×AVal)(n:Nat)(o:AOper)(t:Tr)(σ j:Nat)(M:HMap)(ss:SS):Option (HMap×SS):=
 match lkH σ M with
 |some H=>match lkH t.σ M with
  |some Ht=>match lkH (eR t.σ j) M with
   |some Ht'=>match o.guard with
    |none=>match BR G t.env n o.op with
     |some (_,args)=>cond (aA (N Ht') (N Ht)&&(B7 (N Ht) Ht&&A8 (N Ht) args)) (match lkH (eR σ j) M with
      |some H''=>some (M,(ss.ob (.hp (Ht'++H.drop (N Ht)) H'')).ob (.hp (Ht++H.drop (N Ht)) H))|none=>some ((eR σ j,Ht'++H.drop (N Ht))::M,ss.ob (.hp (Ht++H.drop (N Ht)) H))) none
     |none=>none
    |some _=>none
   |none=>none
  |none=>none
 |none=>none
def Nj (G:List<|Nat×AVal)(call:CallS)(n:Nat)(o:AOper)(t:Tr)(σ j:Nat)(M:HMap)(ss:SS):Option (HMap×SS):=
 cond (aA σ t.σ) (some (M,ss)) (match ss.dr with
  |0::_=>Tn G call n o t σ j M ss.drop|1::_=>Ly t σ j M ss.drop|_::_=>Jr G n o t σ j M ss.drop| []=>none)
def Ky (G:List<|Nat×AVal)(call:CallS)(n:Nat)(ops':List AOper)(l:List Tr)(σ:Nat):List Nat→HMap→SS→Option (HMap×SS)
 | [],M,ss=>some (M,ss)
 |j::r,M,ss=>match ops'[j]? with
  |some o=>match l[j]? with
   |some t=>match Nj G call n o t σ j M ss with
    |some (M',s1)=>Ky G call n ops' l σ r M' s1|none=>none
   |none=>none
  |none=>none
def J4 (G:List<|Nat×AVal)(call:CallS)(p:SP)(n:Nat)(ops':List AOper)(l:List Tr):List Nat→HMap→SS→Option (HMap×SS)
 | [],M,ss=>some (M,ss)
 |σ::r,M,ss=>match Ky G call n ops' l σ (p.steps σ) M ss with
  |some (M',s1)=>J4 G call p n ops' l r M' s1|none=>none
def exB (p:SP)(M:HMap):Bool:=p.states.all λσ=>(lkH σ M).isSome
def rdV :Option ARes→Option (AVal×List (Int×Int))
 |some (.val v _ side)=>some (v,side)|_=>none
def rdS (G:List<|Nat×AVal)(o:AOper)(s:St):Option (AVal×List (Int×Int)):=
 match o.guard with
 |none=>rdV<|aop G s o.op
 |some (d,want)=>match s.env.get d with
  |some (.bool b)=>cond (cond b want<|not want) (rdV<|aop G s o.op) (some (.tup [],[]))|some (.tup [])=>some (.tup [],[])|_=>none
def Md (G:List<|Nat×AVal)(p:SP)(n:Nat)(M:HMap)(o:AOper)(t:Tr)(j:Nat):List Nat→List Ob→Option (List Ob)
 | [],acc=>some acc
 |σ::r,acc=>cond (aA σ t.σ) (Md G p n M o t j r acc) (cond (p.mayB σ j) (match lkH σ M with
  |some H=>match rdS G o ⟨t.env,H,n⟩with
   |some (v,side)=>Md G p n M o t j r (.veq v t.v::EA side acc)|none=>none
  |none=>none) (Md G p n M o t j r acc))
def Us (G:List<|Nat×AVal)(p:SP)(n:Nat)(M:HMap):List AOper→List Tr→Nat→List Ob→Option (List Ob)
 |o::r,t::l,j,acc=>match cond (aA (p.kind.getD j 0) 1) (Md G p n M o t j p.states acc) (some acc)with
  |some acc'=>Us G p n M r l (j+1) acc'|none=>none
 |_,_,_,acc=>some acc
def HJ (G:List<|Nat×AVal)(call:CallS)(p:SP)(l:List AOper)(s:St)(ss:SS):Option (St×SS):=
 match OI G call p s.n l 0 s.env 0 s.H [(0,s.H)] ss with
 |some (trs,M,e,s1)=>match J4 G call p s.n l trs p.states M s1 with
  |some (M',s2)=>cond (exB p M') (match Us G p s.n M' l trs 0 s2.obs with
   |some obs=>match lkH p.fin M' with
    |some H=>some (⟨e,H,s.n⟩,⟨s2.k,s2.br,s2.sk,s2.sd,s2.ans,s2.dr,obs⟩)|none=>none
   |none=>none) none
  |none=>none
 |none=>none
def SD (P:Program)(G:List<|Nat×AVal)(call:CallS)(ops:Array Oper)(s:St)(ss:SS):Option (St×SS):=match Bh P ops ops.toList with|some l=>cond (It P ops<|Ey P ops.toList) (HJ G call (Ey P ops.toList) l s ss) none|none=>none
def loopS (body:St→SS→Option (Aj×St×SS)):Nat→St→SS→Option (Aj×St×SS)
 |0,_,_=>none
 |n+1,s,ss=>match body s ss with
  |some (.normal,s',s1)=>loopS body n s' s1|r=>r
def Zv (P:Program)(G:List<|Nat×AVal)(call:CallS)(ih:Code→St→SS→Option (Aj×St×SS)):Code→St→SS→Option (Aj×St×SS)
 |.skip,s,ss=>some (.normal,s,ss)
 |.region _ ops d,s,ss=>match cond d (SD P G call ops s ss) (Rq P G call ops ops.toList s ss)with
  |some (s',s1)=>some (.normal,s',s1)|none=>none
 |.seq x y,s,ss=>match ih x s ss with
  |some (.normal,s',s1)=>ih y s' s1|r=>r
 |.cond c x y,s,ss=>match An c with
  |some c'=>match ev G s c' with
   |some (.bool b)=>cond b (ih x s ss) (ih y s ss)|_=>none
  |none=>none
 |.block id c,s,ss=>match ih c s ss with
  |some (.exit j,s',s1)=>cond (aA j id) (some (.normal,s',s1)) (some (.exit j,s',s1))|r=>r
 |.loop c,s,ss=>loopS (ih c) 1000000 s ss|.exit id,s,ss=>some (.exit id,s,ss)|.ret,s,ss=>some (.ret,s,ss)|_,_,_=>none
def Yj (P:Program)(G:List<|Nat×AVal)(call:CallS):Nat→Code→St→SS→Option (Aj×St×SS)
 |0,_,_,_=>none|n+1,c,s,ss=>Zv P G call (Yj P G call n) c s ss
def finS (P:Program)(fn:Func)(kp:Bool)(H:Hz):Option (Aj×St×SS)→Option (AVal×Hz×SS)
 |some (e,s,ss)=>match QA P fn kp H (some (e,s))with
  |some (v,H')=>some (v,H',ss)|none=>none
 |none=>none
def TP (P:Program)(G:List<|Nat×AVal)(call:CallS)(fuel:Nat)(b:DB)(s:St)(ss:SS):Option (Aj×St×SS):=
 match Yj P G call fuel b.r0 s ss with
 |some (.normal,s0,t0)=>match Yj P G call fuel b.r1 s0 t0 with
  |some (.normal,s1,t1)=>match AT P G call #[b.o0,b.o1] b.o0 s1 t1 with
   |some (s2,t2)=>cond (NF s2.env b.t b.g b.m) (Yj P G call fuel b.rest s2 t2) none|none=>none
  |_=>none
 |_=>none
def ansS (f:Nat)(args:List AVal)(H:Hz)(ss:SS):Option (AVal×Hz×SS):=match ss.ans with|(v,none)::r=>cond (cond (A8 0 args) (blw 0 v) false) (some (v,H,⟨ss.k,ss.br,ss.sk,ss.sd,r,ss.dr,.call f args v::ss.obs⟩)) none|(v,some H')::r=>some (v,H',⟨ss.k,ss.br,ss.sk,ss.sd,r,ss.dr,.callH f args H v H'::ss.obs⟩)| []=>none
def Gj (P:Program)(G:List<|Nat×AVal)(keep opq:Nat→Bool)(idle:Nat→Option Nat)(tab:CallF)(fuel:Nat):Nat→CallS
 |0,_,_,_,_=>none
 |d+1,f,args,H,ss=>cond (opq f) (ansS f args H ss) (match tab f args H with
  |some r=>some (r.1,r.2,ss)
  |none=>match P.funcs[f]? with
   |some fn=>match fn.body with
    |some c=>cond (bK (N args) 4094&& !(fn.name== "runtime.NumGoroutine")) (finS P fn (keep f) H (match Q4 idle c with
     |some b=>TP P G (Gj P G keep opq idle tab fuel d) fuel b ⟨Gg 0 args .leaf,H,N args+(fn.ntmps-N args)⟩ ss|none=>Yj P G (Gj P G keep opq idle tab fuel d) fuel c ⟨Gg 0 args .leaf,H,N args+(fn.ntmps-N args)⟩ ss)) none
    |none=>none
   |none=>none)
def Gd (P:Program)(W0:World)(ss:SS):Prop:=∀o∈ss.obs,o.ok P W0
def E3 (P:Program)(W0:World)(call:CallS):Prop:=∀f args H ss v H' s1,call f args H ss=some (v,H',s1)→Gd P W0 s1→Gd P W0 ss∧A5 P W0 f args H v H'
section
variable {P : Program} {W0 : World} {G : List (Nat × AVal)}
theorem decS_ok {b c:Bool}{ss s1:SS}(h:decS b ss=some (c,s1))(hg:Gd P W0 s1):Gd P W0 ss∧b=c:=by
 unfold decS at h;split at h
 ·split at h;·injection h with h;injection h with h1 h2;subst h1;subst h2;exact⟨λo ho=>hg o (by simp[ho]),hg (.eq b _) B4⟩
  ·cases h
 ·injection h with h;injection h with h1 h2;subst h1;subst h2;exact⟨hg,Z⟩
theorem Xi :∀{l:List (Int×Int)}{obs:List Ob},(∀o∈EA l obs,o.ok P W0)→(∀o∈obs,o.ok P W0)∧Ah l
 | [],_,h=>⟨h,trivial⟩|p::r,obs,h=>by simp only[EA,eS]at h;obtain⟨h1,h2⟩:=Xi (l:=r) λo ho=>h o<|.inr ho;exact⟨h1,h (.le p.1 p.2)<|.inl Z,h2⟩
theorem EM {side:List (Int×Int)}{ss s1:SS}(h:TV side ss=some s1)(hg:Gd P W0 s1):Gd P W0 ss∧Ah side:=by
 unfold TV at h;split at h;·injection h with h;subst h;exact⟨hg,trivial⟩
 ·split at h
  ·split at h;·injection h with h;subst h;exact Xi hg
   ·cases h
  ·cases hs:Qn side with
   |false=>rw[hs]at h;cases h
   |true=>rw[hs,cond_true]at h;injection h with h;subst h;exact⟨hg,Rx hs⟩
theorem Xm {call:CallS}(hc:E3 P W0 call){cmp:Bool}{H H':Hz}{ss s1:SS}{r:Option ARes}{v:AVal}(h:GP call cmp H ss r=some (v,H',s1))(hg:Gd P W0 s1):Gd P W0 ss∧Ic P W0 H r λv' H''=>v'=v∧H''=H':=by
 unfold GP at h;split at h
 ·split at h
  ·rename_i t ht;cases cmp with
   |false=>simp only[cond_false,iS,iP]at h;obtain⟨rfl,rfl,rfl⟩:=h;obtain⟨h1,h2⟩:=EM ht hg;exact⟨h1,h2,Z,Z⟩
   |true=>
    simp only[cond_true]at h;split at h
    ·split at h;·rename_i c t2 hd;simp only[iS,iP]at h;obtain⟨rfl,rfl,rfl⟩:=h;obtain⟨k1,k2⟩:=decS_ok hd hg;obtain⟨h1,h2⟩:=EM ht k1;subst k2;exact⟨h1,h2,Z,Z⟩
     ·cases h
    ·cases h
  ·cases h
 ·simp only[iS,iP]at h;obtain⟨rfl,rfl,rfl⟩:=h;exact⟨hg,Z,Z⟩
 ·obtain⟨h1,h2⟩:=hc _ _ _ _ _ _ _ h hg;exact⟨h1,_,_,h2,Z,Z⟩
 ·cases h
theorem UV {H:Hz}{r:Option ARes}{v:AVal}{H':Hz}(h:Ic P W0 H r λv' H''=>v'=v∧H''=H'){K:AVal→Hz→Prop}(hk:K v H'):Ic P W0 H r K:=Zd (λv' H'' ⟨e1,e2⟩=>by grind) h
theorem Z6 {call:CallS}(hc:E3 P W0 call){ops:Array Oper}{o:Oper}{s t:St}{ss s1:SS}(h:AT P G call ops o s ss=some (t,s1))(hg:Gd P W0 s1):Gd P W0 ss∧∀{K:St→Prop},K t→J6 P W0 G ops o s K:=by
 unfold AT at h;unfold J6;cases hgd:D9 ops s o.guard with
 |none=>rw[hgd]at h;cases h
 |some b=>
  rw[hgd]at h;cases b with
  |false=>
   simp only at h⊢;split at h;·grind[St.put_putP]
   ·cases h
  |true=>
   simp only at h⊢;cases hop:Au P o.op with
   |none=>rw[hop]at h;cases h
   |some op=>
    rw[hop]at h;simp only at h⊢;split at h
    ·rename_i v H' t1 hr;split at h;·rename_i t' ht;simp only[iS,iP]at h;obtain⟨rfl,rfl⟩:=h;obtain⟨h1,h2⟩:=Xm hc hr hg;exact⟨h1,λhk=>UV h2<|St.put_putP ht hk⟩
     ·cases h
    ·cases h
theorem Wy {call:CallS}(hc:E3 P W0 call){ops:Array Oper}:∀{l:List Oper}{s t:St}{ss s1:SS},Rq P G call ops l s ss=some (t,s1)→Gd P W0 s1→Gd P W0 ss∧∀{K:St→Prop},K t→Pm P W0 G ops l s K
 | [],s,t,ss,s1,h,hg=>by simp only[Rq,iS,iP]at h;obtain⟨rfl,rfl⟩:=h;exact⟨hg,λhk=>hk⟩
 |o::r,s,t,ss,s1,h,hg=>by
  simp only[Rq]at h;split at h;·rename_i t' s2 h1;obtain⟨k1,k2⟩:=Wy hc h hg;obtain⟨k3,k4⟩:=Z6 hc h1 k1;exact⟨k3,λhk=>k4<|k2 hk⟩
  ·cases h
theorem Ss {call:CallS}(hc:E3 P W0 call){o:AOper}{s:St}{ss s1:SS}{v:AVal}{H':Hz}(h:KL G call o s ss=some (v,H',s1))(hg:Gd P W0 s1):Gd P W0 ss∧Bj P W0 G o s λv' H''=>v'=v∧H''=H':=by
 unfold KL at h;unfold Bj;split at h;·grind[Xm]
 ·rename_i d want hgd;rw[hgd];simp only;split at h;·rename_i b hb;rw[hb];simp only;cases hw:cond b want (not want)with|true=>rw[hw]at h;exact Xm hc h hg|false=>rw[hw,cond_false]at h;simp only[iS,iP]at h;obtain⟨rfl,rfl,rfl⟩:=h;exact⟨hg,Z,Z⟩
  all_goals grind
theorem rdS_ok {o:AOper}(hk:o.op.kind≤1){s:St}{v:AVal}{side:List (Int×Int)}(h:rdS G o s=some (v,side))(hs:Ah side):Bj P W0 G o s λv' H'=>v'=v∧H'=s.H:=by
 have main:rdV (aop G s o.op)=some (v,side)→Ic P W0 s.H (aop G s o.op) (λv' H''=>v'=v∧H''=s.H):=by
  intro h;cases hr:aop G s o.op with
  |none=>rw[hr]at h;cases h
  |some r=>obtain⟨v1,side1,rfl⟩:=Ko Y hr;rw[hr]at h;simp only[rdV,iS,iP]at h;obtain⟨rfl,rfl⟩:=h;exact⟨hs,Z,Z⟩
 unfold rdS at h;unfold Bj;grind
theorem Na {p:SP}{n:Nat}{M:HMap}{o:AOper}{t:Tr}{j:Nat}(hop:o.op.kind≤1):∀{sts:List Nat}{acc obs:List Ob},Md G p n M o t j sts acc=some obs→(∀o∈obs,o.ok P W0)→
 (∀o∈acc,o.ok P W0)∧∀σ∈sts,p.mayB σ j=true→σ=t.σ∨∃H,lkH σ M=some H∧Bj P W0 G o ⟨t.env,H,n⟩ λv' H'=>v'=t.v∧H'=H
 | [],acc,obs,h,hg=>by grind[Md]
 |τ::r,acc,obs,h,hg=>by
  simp only[Md]at h;cases hb:aA τ t.σ with
  |true=>
   rw[hb,cond_true]at h;obtain⟨k1,k2⟩:=Na hop h hg;refine⟨k1,λσ hσ hm=>?_⟩;rcases eS.1 hσ with rfl|hσ;·simp_all
   ·grind
  |false=>
   rw[hb,cond_false]at h;cases hm:p.mayB τ j with
   |false=>
    rw[hm,cond_false]at h;obtain⟨k1,k2⟩:=Na hop h hg;refine⟨k1,λσ hσ hm'=>?_⟩;rcases eS.1 hσ with rfl|hσ;·grind
    ·grind
   |true=>
    rw[hm,cond_true]at h;split at h
    ·rename_i H hH;split at h;·rename_i v side hv;obtain⟨k1,k2⟩:=Na hop h hg;have hv':v=t.v:=k1 (.veq v t.v) B4;obtain⟨k3,k4⟩:=Xi (P:=P) (W0:=W0) (l:=side) (obs:=acc) λo ho=>k1 o (by simp[ho]);grind[rdS_ok]
     ·cases h
    ·cases h
theorem AM {p:SP}{n:Nat}{M:HMap}:∀{l:List AOper}{trs:List Tr}{j:Nat}{acc obs:List Ob},Us G p n M l trs j acc=some obs→(∀o∈obs,o.ok P W0)→(∀k o,l[k]?=some o→p.kind.getD (j+k) 0=1→o.op.kind≤1)→
 (∀o∈acc,o.ok P W0)∧∀k o t,l[k]?=some o→trs[k]?=some t→p.kind.getD (j+k) 0=1→∀σ∈p.states,p.mayB σ (j+k)=true→σ=t.σ∨∃H,lkH σ M=some H∧Bj P W0 G o ⟨t.env,H,n⟩ λv' H'=>v'=t.v∧H'=H
 | [],trs,j,acc,obs,h,hg,_=>by grind[Us]|_::_,[],j,acc,obs,h,hg,_=>by grind[Us]
 |o::r,t::trs,j,acc,obs,h,hg,hkd=>by
  simp only[Us]at h;split at h
  ·rename_i acc' ha;obtain⟨k1,k2⟩:=AM h hg λk o ho h1=>hkd (k+1) o (by grind) (by grind);have hacc:(∀o∈acc,o.ok P W0)∧(p.kind.getD j 0=1→∀σ∈p.states,p.mayB σ j=true→σ=t.σ∨∃H,lkH σ M=some H∧Bj P W0 G o ⟨t.env,H,n⟩ λv' H'=>v'=t.v∧H'=H):=by
    cases hb:aA (p.kind.getD j 0) 1 with
    |false=>rw[hb,cond_false]at ha;injection ha with ha;subst ha;exact⟨k1,λh1=>by simp_all⟩
    |true=>rw[hb,cond_true]at ha;obtain⟨c1,c2⟩:=Na (hkd 0 o rfl (by simp_all)) ha k1;exact⟨c1,λ_=>c2⟩
   grind
  ·cases h
theorem BT {call:CallS}(hc:E3 P W0 call){p:SP}{n:Nat}:∀(l:List AOper) (j:Nat) (e:Env) (σ:Nat) (H:Hz) (M:HMap) {ss s1:SS}{tr:List Tr}{Mf:HMap}{ef:Env},OI G call p n l j e σ H M ss=some (tr,Mf,ef,s1)→lkH σ M=some H→Gd P W0 s1→
 Gd P W0 ss∧Fq M Mf∧N tr=N l∧D5 tr ef 0=e∧
 ∀k o,l[k]?=some o→∃t Hk H',tr[k]?=some t∧E7 o.dst n=true∧lkH t.σ Mf=some Hk∧(Bj P W0 G o ⟨t.env,Hk,n⟩ λv' H''=>v'=t.v∧H''=H')∧
  (p.eff (j+k)=true→lkH (eR t.σ<|j+k) Mf=some H')∧D5 tr ef (k+1)=Ep o.dst t.v t.env
 | [],j,e,σ,H,M,ss,s1,tr,Mf,ef,h,hl,hg=>by grind[OI,Fq,D5]
 |o::r,j,e,σ,H,M,ss,s1,tr,Mf,ef,h,hl,hg=>by
  simp only[OI]at h;split at h
  ·rename_i hd;split at h
   ·rename_i v H' s2 hv;split at h
    ·rename_i heff;split at h
     ·rename_i hnone;split at h;·rename_i l' rest hrest;simp only[iS,iP]at h;obtain⟨rfl,h⟩:=h;subst h;obtain⟨g1,h1,h2,h3,h4⟩:=BT hc r (j+1) _ _ H' _ hrest (Dq _ _ _) hg;obtain⟨g2,e2⟩:=Ss hc hv g1;have hext:Fq M Mf:=λσ' H'' h'=>h1 _ _<|fU hnone _ _ h';refine⟨g2,hext,by simp[h2],rfl,λk o' hk=>?_⟩;cases k with|zero=>simp at hk;subst hk;exact⟨_,H,H',Z,hd,hext _ _ hl,e2,λ_=>h1 _ _<|Dq _ _ _,by grind[D5]⟩|succ k=>obtain⟨t,Hk,Hk',a1,a2,a3,a4,a5,a6⟩:=h4 k o' (by grind);exact⟨t,Hk,Hk',by grind,a2,a3,a4,by grind,by grind[D5]⟩
      ·cases h
     ·cases h
    ·rename_i heff;split at h;·rename_i l' rest hrest;simp only[iS,iP]at h;obtain⟨rfl,h⟩:=h;subst h;obtain⟨g1,h1,h2,h3,h4⟩:=BT hc r (j+1) _ _ H _ hrest hl hg;obtain⟨g2,e2⟩:=Ss hc hv g1;refine⟨g2,h1,by simp[h2],rfl,λk o' hk=>?_⟩;cases k with|zero=>simp at hk;subst hk;exact⟨_,H,H',Z,hd,h1 _ _ hl,e2,λhe=>absurd he (by grind),by grind[D5]⟩|succ k=>obtain⟨t,Hk,Hk',a1,a2,a3,a4,a5,a6⟩:=h4 k o' (by grind);exact⟨t,Hk,Hk',by grind,a2,a3,a4,by grind,by grind[D5]⟩
     ·cases h
   ·cases h
  ·cases h
theorem EC {o:AOper}{s:St}{v:AVal}{H':Hz}(hk:o.op.kind≤1)(h:Bj P W0 G o s λv' H''=>v'=v∧H''=H'):H'=s.H:=by
 have main:Ic P W0 s.H (aop G s o.op) (λv' H''=>v'=v∧H''=H')→H'=s.H:=by intro h;cases hr:aop G s o.op with|none=>rw[hr]at h;exact h.elim|some r=>obtain⟨v1,side,rfl⟩:=Ko Y hr;rw[hr]at h;exact h.2.2.symm
 unfold Bj at h;grind
theorem Gd.ob {ss:SS}{o:Ob}(h:Gd P W0<|ss.ob o):Gd P W0 ss∧o.ok P W0:=⟨λo' ho=>h o' (by simp[SS.ob,ho]),h o (by simp[SS.ob])⟩
def Vf (P:Program)(W0:World)(G:List<|Nat×AVal)(n:Nat)(o:AOper)(t:Tr)(j:Nat)(M:HMap):Prop:=∃Hk H',lkH t.σ M=some Hk∧(Bj P W0 G o ⟨t.env,Hk,n⟩ λv' H''=>v'=t.v∧H''=H')∧lkH (eR t.σ j) M=some H'
theorem Vf.ext {n:Nat}{o:AOper}{t:Tr}{j:Nat}{M M':HMap}(h:Vf P W0 G n o t j M)(he:Fq M M'):Vf P W0 G n o t j M':=by obtain⟨Hk,H',h1,h2,h3⟩:=h;exact⟨Hk,H',he _ _ h1,h2,he _ _ h3⟩
theorem Wv {call:CallS}(hc:E3 P W0 call){n:Nat}{o:AOper}{t:Tr}{σ j:Nat}{M M':HMap}{ss s1:SS}(h:Tn G call n o t σ j M ss=some (M',s1))(hg:Gd P W0 s1):
 Gd P W0 ss∧Fq M M'∧∃H H',lkH σ M'=some H∧(Bj P W0 G o ⟨t.env,H,n⟩ λv' H''=>v'=t.v∧H''=H')∧lkH (eR σ j) M'=some H':=by
 unfold Tn at h;split at h
 ·rename_i H hH;split at h
  ·rename_i v H' s2 hv;split at h;·rename_i H'' hH'';simp only[iS,iP]at h;obtain⟨rfl,rfl⟩:=h;obtain⟨g1,o1⟩:=hg.ob;obtain⟨g2,o2⟩:=g1.ob;obtain⟨g3,e3⟩:=Ss hc hv g2;have o1:v=t.v:=o1;have o2:H'=H'':=o2;subst o1;subst o2;exact⟨g3,λ_ _ h=>h,H,H',hH,e3,hH''⟩
   ·rename_i hnone;simp only[iS,iP]at h;obtain⟨rfl,rfl⟩:=h;obtain⟨g1,o1⟩:=hg.ob;obtain⟨g3,e3⟩:=Ss hc hv g1;have o1:v=t.v:=o1;subst o1;exact⟨g3,fU hnone,H,H',fU hnone _ _ hH,e3,Dq _ _ _⟩
  ·cases h
 ·cases h
theorem EH {n:Nat}{o:AOper}{t:Tr}{σ j:Nat}{M M':HMap}{ss s1:SS}(hb:Vf P W0 G n o t j M)(h:Ly t σ j M ss=some (M',s1))(hg:Gd P W0 s1):
 Gd P W0 ss∧Fq M M'∧∃H H',lkH σ M'=some H∧(Bj P W0 G o ⟨t.env,H,n⟩ λv' H''=>v'=t.v∧H''=H')∧lkH (eR σ j) M'=some H':=by
 obtain⟨Hk,Hk',b1,b2,b3⟩:=hb;unfold Ly at h;split at h
 ·rename_i H hH;split at h
  ·rename_i Ht hHt;rw[b1]at hHt;injection hHt with hHt;subst hHt;split at h
   ·rename_i Ht' hHt';rw[b3]at hHt';injection hHt' with hHt';subst hHt';split at h;·rename_i H'' hH'';simp only[iS,iP]at h;obtain⟨rfl,rfl⟩:=h;obtain⟨g1,o1⟩:=hg.ob;obtain⟨g2,o2⟩:=g1.ob;have o1:Hk=H:=o1;have o2:Hk'=H'':=o2;subst o1;subst o2;exact⟨g2,λ_ _ h=>h,Hk,Hk',hH,b2,hH''⟩
    ·rename_i hnone;simp only[iS,iP]at h;obtain⟨rfl,rfl⟩:=h;obtain⟨g1,o1⟩:=hg.ob;have o1:Hk=H:=o1;subst o1;exact⟨g1,fU hnone,Hk,Hk',fU hnone _ _ hH,b2,Dq _ _ _⟩
   ·cases h
  ·cases h
 ·cases h
theorem Yd {e:Env}{n:Nat}{op:AOp}{f:Nat}{args:List AVal}(h:BR G e n op=some (f,args))(H:Hz):aop G ⟨e,H,n⟩ op=some (.call f args):=by cases op<;>simp only[BR,reduceCtorEq]at h;grind[aop,L0,JT]
theorem AW {n:Nat}{o:AOper}{t:Tr}{σ j:Nat}{M M':HMap}{ss s1:SS}(hb:Vf P W0 G n o t j M)(h:Jr G n o t σ j M ss=some (M',s1))(hg:Gd P W0 s1):
 Gd P W0 ss∧Fq M M'∧∃H H',lkH σ M'=some H∧(Bj P W0 G o ⟨t.env,H,n⟩ λv' H''=>v'=t.v∧H''=H')∧lkH (eR σ j) M'=some H':=by
 obtain⟨Hk,Hk',b1,b2,b3⟩:=hb;unfold Jr at h;split at h
 ·rename_i H hH;split at h
  ·rename_i Ht hHt;rw[b1]at hHt;injection hHt with hHt;subst hHt;split at h
   ·rename_i Ht' hHt';rw[b3]at hHt';injection hHt' with hHt';subst hHt';split at h
    ·rename_i hgd;split at h
     ·rename_i f args hct;cases hcd:(aA (N Hk') (N Hk)&&(B7 (N Hk) Hk&&A8 (N Hk) args))with
      |false=>rw[hcd]at h;cases h
      |true=>
       rw[hcd,cond_true]at h;simp only[bAt]at hcd;obtain⟨c1,c2,c3⟩:=hcd;have c1:=nBq c1;have hcall:A5 P W0 f args Hk t.v Hk':=by unfold Bj at b2;rw[hgd]at b2;simp only[Yd hct Hk]at b2;obtain⟨v',H'',k1,k2,k3⟩:=b2;subst k2;subst k3;exact k1
       have hfr:=hcall.frame c2 c3 c1<|H.drop<|N Hk;have hev:∀{H2:Hz},Hk++H.drop (N Hk)=H2→Bj P W0 G o ⟨t.env,H2,n⟩ λv' H''=>v'=t.v∧H''=Hk'++H.drop (N Hk):=by intro H2 he;subst he;unfold Bj;rw[hgd];simp only[Yd hct];exact⟨_,_,hfr,Z,Z⟩
       split at h;·rename_i H'' hH'';simp only[iS,iP]at h;obtain⟨rfl,rfl⟩:=h;obtain⟨g1,o1⟩:=hg.ob;obtain⟨g2,o2⟩:=g1.ob;have o1:Hk++H.drop (N Hk)=H:=o1;have o2:Hk'++H.drop (N Hk)=H'':=o2;exact⟨g2,λ_ _ h=>h,H,H'',hH,o2▸hev o1,hH''⟩
       ·rename_i hnone;simp only[iS,iP]at h;obtain⟨rfl,rfl⟩:=h;obtain⟨g1,o1⟩:=hg.ob;have o1:Hk++H.drop (N Hk)=H:=o1;exact⟨g1,fU hnone,H,_,fU hnone _ _ hH,hev o1,Dq _ _ _⟩
     ·cases h
    ·cases h
   ·cases h
  ·cases h
 ·cases h
theorem GS {call:CallS}(hc:E3 P W0 call){n:Nat}{o:AOper}{t:Tr}{σ j:Nat}{M M':HMap}{ss s1:SS}(hb:Vf P W0 G n o t j M)(h:Nj G call n o t σ j M ss=some (M',s1))(hg:Gd P W0 s1):
 Gd P W0 ss∧Fq M M'∧(σ=t.σ∨∃H H',lkH σ M'=some H∧(Bj P W0 G o ⟨t.env,H,n⟩ λv' H''=>v'=t.v∧H''=H')∧lkH (eR σ j) M'=some H'):=by
 unfold Nj at h;cases hbq:aA σ t.σ with
 |true=>rw[hbq,cond_true]at h;simp only[iS,iP]at h;obtain⟨rfl,rfl⟩:=h;exact⟨hg,λ_ _ h=>h,.inl<|nBq hbq⟩
 |false=>
  rw[hbq,cond_false]at h;split at h;·obtain⟨k1,k2,k3⟩:=Wv hc h hg;exact⟨k1,k2,.inr k3⟩
  ·obtain⟨k1,k2,k3⟩:=EH hb h hg;exact⟨k1,k2,.inr k3⟩
  ·obtain⟨k1,k2,k3⟩:=AW hb h hg;exact⟨k1,k2,.inr k3⟩
  ·cases h
theorem Zr {call:CallS}(hc:E3 P W0 call){n:Nat}{ops':List AOper}{l:List Tr}{σ:Nat}:∀{js:List Nat}{M M':HMap}{ss s1:SS},(∀j∈js,∀o t,ops'[j]?=some o→l[j]?=some t→Vf P W0 G n o t j M)→Ky G call n ops' l σ js M ss=some (M',s1)→Gd P W0 s1→
 Gd P W0 ss∧Fq M M'∧∀j∈js,∃o t,ops'[j]?=some o∧l[j]?=some t∧(σ=t.σ∨∃H H',lkH σ M'=some H∧(Bj P W0 G o ⟨t.env,H,n⟩ λv' H''=>v'=t.v∧H''=H')∧lkH (eR σ j) M'=some H')
 | [],M,M',ss,s1,_,h,hg=>by simp only[Ky,iS,iP]at h;obtain⟨rfl,rfl⟩:=h;exact⟨hg,λ_ _ h=>h,λj hj=>by cases hj⟩
 |j::r,M,M',ss,s1,hb,h,hg=>by
  simp only[Ky]at h;split at h
  ·rename_i o ho;split at h
   ·rename_i t ht;split at h
    ·rename_i M1 s2 h1;have hext:Fq M M1:=by
      unfold Nj at h1;cases hbq:aA σ t.σ with
      |true=>rw[hbq,cond_true]at h1;simp only[iS,iP]at h1;obtain⟨rfl,_⟩:=h1;exact λ_ _ h=>h
      |false=>
       rw[hbq,cond_false]at h1;split at h1
       ·unfold Tn at h1;repeat' (split at h1)
        all_goals first
         |(cases h1;done)
         |(simp only[iS,iP]at h1;obtain⟨rfl,_⟩:=h1;exact λ_ _ h=>h)
         |(rename_i hn;simp only[iS,iP]at h1;obtain⟨rfl,_⟩:=h1;exact fU hn)
       ·unfold Ly at h1;repeat' (split at h1)
        all_goals first
         |(cases h1;done)
         |(simp only[iS,iP]at h1;obtain⟨rfl,_⟩:=h1;exact λ_ _ h=>h)
         |(rename_i hn;simp only[iS,iP]at h1;obtain⟨rfl,_⟩:=h1;exact fU hn)
       ·unfold Jr at h1;repeat' (split at h1)
        all_goals first
         |(cases h1;done)
         |(
          revert h1;cases(aA _ _&&(B7 _ _&&A8 _ _))with
          |false=>intro h1;cases h1
          |true=>
           intro h1;rw[cond_true]at h1;simp only[iS,iP]at h1;obtain⟨rfl,_⟩:=h1;first
            |exact λ_ _ h=>h|exact fU (by assumption))
       ·cases h1
     obtain⟨g2,b1,b2⟩:=Zr hc (λk hk o t h1 h2=>(hb k (by simp[hk]) o t h1 h2).ext hext) h hg;obtain⟨g1,a1,a2⟩:=GS hc (hb j B4 o t ho ht) h1 g2;refine⟨g1,λσ H hh=>b1 _ _<|a1 _ _ hh,λk hk=>?_⟩;rcases eS.1 hk with rfl|hk;·refine⟨o,t,ho,ht,a2.imp id ?_⟩;rintro⟨H,H',c1,c2,c3⟩;exact⟨H,H',b1 _ _ c1,c2,b1 _ _ c3⟩
     grind
    ·cases h
   ·cases h
  ·cases h
theorem Wz {call:CallS}{n:Nat}{ops':List AOper}{l:List Tr}{σ:Nat}:∀{js:List Nat}{M M':HMap}{ss s1:SS},Ky G call n ops' l σ js M ss=some (M',s1)→Fq M M'
 | [],M,M',ss,s1,h=>by simp only[Ky,iS,iP]at h;obtain⟨rfl,rfl⟩:=h;exact λ_ _ h=>h
 |j::r,M,M',ss,s1,h=>by
  simp only[Ky]at h;split at h
  ·rename_i o ho;split at h
   ·rename_i t ht;split at h
    ·rename_i M1 s2 h1;have hext:Fq M M1:=by
      unfold Nj at h1;cases hbq:aA σ t.σ with
      |true=>rw[hbq,cond_true]at h1;simp only[iS,iP]at h1;obtain⟨rfl,_⟩:=h1;exact λ_ _ h=>h
      |false=>
       rw[hbq,cond_false]at h1;split at h1
       ·unfold Tn at h1;repeat' (split at h1)
        all_goals first
         |(cases h1;done)
         |(simp only[iS,iP]at h1;obtain⟨rfl,_⟩:=h1;exact λ_ _ h=>h)
         |(rename_i hn;simp only[iS,iP]at h1;obtain⟨rfl,_⟩:=h1;exact fU hn)
       ·unfold Ly at h1;repeat' (split at h1)
        all_goals first
         |(cases h1;done)
         |(simp only[iS,iP]at h1;obtain⟨rfl,_⟩:=h1;exact λ_ _ h=>h)
         |(rename_i hn;simp only[iS,iP]at h1;obtain⟨rfl,_⟩:=h1;exact fU hn)
       ·unfold Jr at h1;repeat' (split at h1)
        all_goals first
         |(cases h1;done)
         |(
          revert h1;cases(aA _ _&&(B7 _ _&&A8 _ _))with
          |false=>intro h1;cases h1
          |true=>
           intro h1;rw[cond_true]at h1;simp only[iS,iP]at h1;obtain⟨rfl,_⟩:=h1;first
            |exact λ_ _ h=>h|exact fU (by assumption))
       ·cases h1
     exact λσ H hh=>Wz h _ _<|hext _ _ hh
    ·cases h
   ·cases h
  ·cases h
theorem Ve {call:CallS}(hc:E3 P W0 call){p:SP}{n:Nat}{ops':List AOper}{l:List Tr}:∀{sts:List Nat}{M M':HMap}{ss s1:SS},(∀j o t,p.eff j=true→ops'[j]?=some o→l[j]?=some t→Vf P W0 G n o t j M)→J4 G call p n ops' l sts M ss=some (M',s1)→Gd P W0 s1→
 Gd P W0 ss∧Fq M M'∧∀σ∈sts,∀j∈p.steps σ,∃o t,ops'[j]?=some o∧l[j]?=some t∧(σ=t.σ∨∃H H',lkH σ M'=some H∧(Bj P W0 G o ⟨t.env,H,n⟩ λv' H''=>v'=t.v∧H''=H')∧lkH (eR σ j) M'=some H')
 | [],M,M',ss,s1,_,h,hg=>by simp only[J4,iS,iP]at h;obtain⟨rfl,rfl⟩:=h;exact⟨hg,λ_ _ h=>h,λj hj=>by cases hj⟩
 |σ::r,M,M',ss,s1,hb,h,hg=>by
  simp only[J4]at h;split at h
  ·rename_i M1 s2 h1;have hext:=Wz h1;obtain⟨g2,b1,b2⟩:=Ve hc (λj o t h1 h2 h3=>(hb j o t h1 h2 h3).ext hext) h hg;obtain⟨g1,a1,a2⟩:=Zr hc (λj hj o t h1 h2=>hb j o t (by simp_all[SP.steps]) h1 h2) h1 g2;refine⟨g1,λσ H hh=>b1 _ _<|a1 _ _ hh,λτ hτ j hj=>?_⟩;rcases eS.1 hτ with rfl|hτ;·obtain⟨o,t,c1,c2,c3⟩:=a2 j hj;refine⟨o,t,c1,c2,c3.imp id ?_⟩;rintro⟨H,H',c1,c2,c3⟩;exact⟨H,H',b1 _ _ c1,c2,b1 _ _ c3⟩
   grind
  ·cases h
theorem GZ {call:CallS}(hc:E3 P W0 call){n:Nat}{o:AOper}{t:Tr}{σ j:Nat}{M M':HMap}{ss s1:SS}(h:Nj G call n o t σ j M ss=some (M',s1))(hg:Gd P W0 s1):Gd P W0 ss:=by
 unfold Nj at h;cases hbq:aA σ t.σ with
 |true=>rw[hbq,cond_true]at h;simp only[iS,iP]at h;obtain⟨rfl,rfl⟩:=h;exact hg
 |false=>
  rw[hbq,cond_false]at h;split at h;·exact(Wv hc h hg).1
  ·unfold Ly at h;repeat' (split at h)
   all_goals first
    |(cases h;done)
    |(simp only[iS,iP]at h;obtain⟨_,rfl⟩:=h;exact hg.ob.1.ob.1)
    |(simp only[iS,iP]at h;obtain⟨_,rfl⟩:=h;exact hg.ob.1)
  ·unfold Jr at h;repeat' (split at h)
   all_goals first
    |(cases h;done)
    |(
     revert h;cases(aA _ _&&(B7 _ _&&A8 _ _))with
     |false=>intro h;cases h
     |true=>
      intro h;rw[cond_true]at h;simp only[iS,iP]at h;obtain⟨_,rfl⟩:=h;first
       |exact hg.ob.1.ob.1|exact hg.ob.1)
  ·cases h
theorem Zg {call:CallS}(hc:E3 P W0 call){n:Nat}{ops':List AOper}{l:List Tr}{σ:Nat}:∀{js:List Nat}{M M':HMap}{ss s1:SS},Ky G call n ops' l σ js M ss=some (M',s1)→Gd P W0 s1→Gd P W0 ss
 | [],M,M',ss,s1,h,hg=>by grind[Ky]
 |j::r,M,M',ss,s1,h,hg=>by
  simp only[Ky]at h;split at h
  ·split at h
   ·split at h;·rename_i M1 s2 h1;exact GZ hc h1 (Zg hc h hg)
    ·cases h
   ·cases h
  ·cases h
theorem Vl {call:CallS}(hc:E3 P W0 call){p:SP}{n:Nat}{ops':List AOper}{l:List Tr}:∀{sts:List Nat}{M M':HMap}{ss s1:SS},J4 G call p n ops' l sts M ss=some (M',s1)→Gd P W0 s1→Gd P W0 ss
 | [],M,M',ss,s1,h,hg=>by grind[J4]
 |σ::r,M,M',ss,s1,h,hg=>by
  simp only[J4]at h;split at h;·rename_i M1 s2 h1;exact Zg hc h1<|Vl hc h hg
  ·cases h
theorem MP (hm:P.follows .mixedOrders=true)(hG:GOK W0 G){call:CallS}(hc:E3 P W0 call){id:Nat}{ops:Array Oper}{l:List AOper}(hl:Bh P ops ops.toList=some l){sp:SP}(hok:It P ops sp=true){s t:St}{ss s1:SS}(h:HJ G call sp l s ss=some (t,s1))(hg:Gd P W0 s1):
 Gd P W0 ss∧Ex P W0 (.region id ops true) s λe1 t1=>e1= .normal∧t1=t:=by
 unfold HJ at h;split at h
 ·rename_i trs M0 e s2 hseq;split at h
  ·rename_i M s3 hloud;cases hlin:exB sp M with
   |false=>rw[hlin]at h;cases h
   |true=>
   rw[hlin,cond_true]at h;split at h
   ·rename_i obs hq;split at h
    ·rename_i Hfin hfin;simp only[iS,iP]at h;obtain⟨rfl,rfl⟩:=h;obtain⟨hlen,hcg⟩:=D4 hl;have hN:sp.n=ops.size∧∀(j:Nat) (o:Oper),ops[j]?=some o→sp.kind.getD j 0=E4 P o:=by simp_all[It,aSi,T9]
     have hkop:∀(o:Oper) (a:AOper),B5 P ops o=some a→E4 P o=a.op.kind:=by grind[B5,E4]
     obtain⟨q1,q2⟩:=AM (P:=P) (W0:=W0) hq hg λk a ha h1=>by
      rw[bS]at h1;have hkl:k<ops.size:=by grind
      obtain⟨a',b1,b2⟩:=hcg k ops[k] (by simp[hkl])<;>grind
     have q1':=Vl hc hloud q1;obtain⟨g1,h1',h2,h3,h4'⟩:=BT hc l 0 s.env 0 s.H [(0,s.H)] hseq (Dq _ _ _) q1'
     obtain⟨_,hM,hL⟩:=Ve hc (λj o t hj ho ht=>by
      obtain⟨t',Hk,H',a1,a2,a3,a4,a5,a6⟩:=h4' j o ho;rw[ht]at a1;injection a1 with a1;subst a1;rw[bS]at a5
      exact⟨Hk,H',a3,a4,a5 hj⟩) hloud q1
     have h1:Fq [(0,s.H)] M:=λσ H hh=>hM _ _<|h1' _ _ hh;have h4:∀k o,l[k]?=some o→∃t Hk H',trs[k]?=some t∧E7 o.dst s.n=true∧lkH t.σ M=some Hk∧(Bj P W0 G o ⟨t.env,Hk,s.n⟩ λv' H''=>v'=t.v∧H''=H')∧
      (sp.eff (0+k)=true→lkH (eR t.σ<|0+k) M=some H')∧D5 trs e (k+1)=Ep o.dst t.v t.env:=by
      intro k o ho;obtain⟨t,Hk,H',a1,a2,a3,a4,a5,a6⟩:=h4' k o ho;exact⟨t,Hk,H',a1,a2,hM _ _ a3,a4,λhe=>hM _ _<|a5 he,a6⟩
     refine⟨g1,?_⟩;have hall:∀(j:Nat) (o:Oper),ops[j]?=some o→∃a t Hk H',l[j]?=some a∧B5 P ops o=some a∧trs[j]?=some t∧E7 o.dst s.n=true∧lkH t.σ M=some Hk∧(Bj P W0 G a ⟨t.env,Hk,s.n⟩ λv' H''=>v'=t.v∧H''=H')∧(sp.eff j=true→lkH (eR t.σ j) M=some H')∧D5 trs e (j+1)=Ep o.dst t.v t.env:=by intro j o ho;obtain⟨a,ha1,ha2⟩:=hcg j o (by grind)<;>grind[D8]
     have hex:∀σ∈sp.states,∃H,lkH σ M=some H:=λσ hσ=>cO.1<|eB.1 hlin σ hσ;obtain⟨p,hp,heq⟩:=U3 (P:=P) (W0:=W0) (G:=G) (s:=s) hok (l:=trs) (M':=M) (ef:=e) (Hfin:=Hfin) (by grind) h3 (h1 _ _<|Dq _ _ _)
      (λj o ho=>by grind)
      (λj o t ho ht hk σ hσ hmay=>by
       obtain⟨a,t',Hk,H',b1,b2,b3,b4,b5,b6,b7,b8⟩:=hall j o ho;rw[ht]at b3;injection b3 with b3;subst b3;obtain⟨H2,hH2⟩:=hex σ hσ;refine⟨H2,hH2,?_⟩;have hk0:E4 P o=0∨E4 P o=1:=Y;rcases hk0 with hk0|hk1;·exact Nk hk0<|H7 b2 b6
       ·rcases q2 j a t b1 ht (by grind) σ hσ (by grind)with rfl|⟨H3,c1,c2⟩
        ·rw[b5]at hH2;injection hH2 with hH2;subst hH2;have hop:a.op.kind≤1:=by grind
         have:=EC hop b6;simp_all[H7]
        simp_all[H7])
      (λσ hσ j hj=>by
       have hjj:=hj;unfold SP.steps at hjj;rw[List.mem_filter,fC]at hjj;obtain⟨hjn,hje⟩:=hjj;simp only[bAt]at hje;have hjs:j<ops.size:=Y;have ho:ops[j]?=some ops[j]:=eE hjs;obtain⟨a,t,Hk,H',b1,b2,b3,b4,b5,b6,b7,b8⟩:=hall j _ ho
       obtain⟨a',t',c1,c2,c3⟩:=hL σ hσ j hj<;>grind[H7])
      hfin
     grind[Ex.draw]
    ·cases h
   ·cases h
  ·cases h
 ·cases h
theorem RY (hm:P.follows .mixedOrders=true)(hG:GOK W0 G){call:CallS}(hc:E3 P W0 call){id:Nat}{ops:Array Oper}{s t:St}{ss s1:SS}(h:SD P G call ops s ss=some (t,s1))(hg:Gd P W0 s1):
 Gd P W0 ss∧Ex P W0 (.region id ops true) s λe1 t1=>e1= .normal∧t1=t:=by
 unfold SD at h;split at h
 ·rename_i l hl;cases hsp:It P ops (Ey P ops.toList)with
  |false=>rw[hsp]at h;cases h
  |true=>rw[hsp,cond_true]at h;exact MP hm hG hc hl hsp h hg
 ·cases h
def BJ (P:Program)(W0:World)(c:Code)(body:St→SS→Option (Aj×St×SS)):Prop:=∀s ss e s' s1,body s ss=some (e,s',s1)→Gd P W0 s1→Gd P W0 ss∧Ex P W0 c s λe1 t1=>e1=e∧t1=s'
theorem Yg {c:Code}{body:St→SS→Option (Aj×St×SS)}(hb:BJ P W0 c body):∀{n:Nat}{s:St}{ss:SS}{e:Aj}{s':St}{s1:SS},loopS body n s ss=some (e,s',s1)→Gd P W0 s1→Gd P W0 ss
 |0,_,_,_,_,_,h,_=>Hq
 |n+1,s,ss,e,s',s1,h,hg=>by
  simp only[loopS]at h;split at h;·rename_i t t1 h1;exact(hb _ _ _ _ _ h1<|Yg hb h hg).1
  ·exact(hb _ _ _ _ _ h hg).1
theorem QZ {c:Code}{body:St→SS→Option (Aj×St×SS)}(hb:BJ P W0 c body){n:Nat}{s:St}{ss:SS}{e:Aj}{s':St}{s1:SS}(h:loopS body n s ss=some (e,s',s1))(hg:Gd P W0 s1):
 Ex P W0 (.loop c) s λe1 t1=>e1=e∧t1=s':=by
 refine Ex.loop (σ:=Nat) (λn s=>∃ss,loopS body n s ss=some (e,s',s1)) id (i:=n) ⟨ss,h⟩ ?_;rintro n s ⟨ss,h⟩;cases n with
 |zero=>cases h
 |succ n=>
  simp only[loopS]at h;split at h;·rename_i t t1 h1;have hgt:=Yg hb h hg;refine((hb _ _ _ _ _ h1 hgt).2).mono ?_;grind
  ·rename_i hne;refine((hb _ _ _ _ _ h hg).2).mono ?_;rintro e2 s2 ⟨rfl,rfl⟩;cases e2<;>grind
theorem P8 (hm:P.follows .mixedOrders=true)(hG:GOK W0 G){call:CallS}(hc:E3 P W0 call):∀(n:Nat) {c:Code},BJ P W0 c (Yj P G call n c)
 |0,_,_,_,_,_,_,h,_=>Hq
 |n+1,c,s,ss,e,s',s1,h,hg=>by
  have ih:=λ{c:Code}=>@P8 hm hG call hc n c;simp only[Yj]at h;cases c<;>simp only[Zv]at h<;>try (cases h;done)
  case skip=>grind[Ex.skip]
  case exit id=>grind[Ex.exit]
  case ret=>grind[Ex.ret]
  case region id ops d=>grind[RY,Wy,Ex.region]
  case seq x y=>
   split at h;·rename_i t t1 h1;obtain⟨k1,k2⟩:=ih _ _ _ _ _ h hg;obtain⟨k3,k4⟩:=ih _ _ _ _ _ h1 k1;refine⟨k3,Ex.seq<|k4.mono ?_⟩;grind
   ·rename_i hne;obtain⟨k3,k4⟩:=ih _ _ _ _ _ h hg;refine⟨k3,Ex.seq<|k4.mono ?_⟩;rintro e2 s2 ⟨rfl,rfl⟩;cases e2<;>grind
  case cond c x y=>
   split at h
   ·rename_i c' hc';split at h
    ·rename_i b hb;cases b with
     |true=>obtain⟨k1,k2⟩:=ih _ _ _ _ _ h hg;exact⟨k1,Ex.cond hG hc' hb (λ_=>k2) (λe=>by cases e)⟩
     |false=>obtain⟨k1,k2⟩:=ih _ _ _ _ _ h hg;exact⟨k1,Ex.cond hG hc' hb (λe=>by cases e)<|λ_=>k2⟩
    ·cases h
   ·cases h
  case block id c=>
   split at h
   ·rename_i j t t1 h1;have hgt:Gd P W0 t1:=by grind
    obtain⟨k3,k4⟩:=ih _ _ _ _ _ h1 hgt;refine⟨k3,Ex.block<|k4.mono ?_⟩;grind
   ·rename_i hne;obtain⟨k3,k4⟩:=ih _ _ _ _ _ h hg;refine⟨k3,Ex.block<|k4.mono ?_⟩;rintro e2 s2 ⟨rfl,rfl⟩;cases e2<;>grind
  grind[Yg,QZ]
theorem OJ {fn:Func}{kp:Bool}{H:Hz}{r:Option (Aj×St×SS)}{v:AVal}{H':Hz}{ss:SS}(h:finS P fn kp H r=some (v,H',ss)):∃e s,r=some (e,s,ss)∧(match e with|.exit _=>False|_=>True)∧∃vs,Dk P s fn.results.toList=some vs∧(Ls (N H) (Cb vs) s.H=(v,H')∨(Cb vs,s.H)=(v,H')):=by
 unfold finS at h;split at h
 ·rename_i e s ss';split at h;·rename_i v' H'' hf;simp only[iS,iP]at h;obtain⟨rfl,rfl,rfl⟩:=h<;>grind[QA]
  ·cases h
 ·cases h
theorem X7 (hm:P.follows .mixedOrders=true)(hG:GOK W0 G){idle:Nat→Option Nat}(hi:∀g m,idle g=some m→Ql P g m∧E1 P g){tab:CallF}(ht:En P W0 tab){keep opq:Nat→Bool}(fuel:Nat):∀d,E3 P W0 (Gj P G keep opq idle tab fuel d)
 |0,_,_,_,_,_,_,_,h,_=>Hq
 |d+1,f,args,H,ss,v,H',s1,h,hg=>by
  have ih:=X7 hm hG hi ht (keep:=keep) (opq:=opq) fuel d;simp only[Gj]at h;cases hq:opq f with
  |true=>
   rw[hq,cond_true]at h;unfold ansS at h;split at h
   ·rename_i v0 r0 _;cases hb:cond (A8 0 args) (blw 0 v0) false with
    |false=>rw[hb]at h;cases h
    |true=>rw[hb]at h;simp only[cond_true,iS,iP]at h;obtain⟨rfl,rfl,rfl⟩:=h;obtain⟨b1,b2⟩:=P6 hb;exact⟨λo ho=>hg o (by simp[ho]),A5.pure b1 b2 (hg (.call f args _) B4) H⟩
   ·rename_i v0 H0 r0 _;simp only[iS,iP]at h;obtain⟨rfl,rfl,rfl⟩:=h;exact⟨λo ho=>hg o (by simp[ho]),hg (.callH f args H _ _) B4⟩
   ·cases h
  |false=>
   rw[hq,cond_false]at h;split at h;·rename_i r hr;simp only[iS,iP]at h;obtain⟨rfl,rfl,rfl⟩:=h;exact⟨hg,ht _ _ _ _ _ hr⟩
   ·split at h
    ·rename_i fn hfn;split at h
     ·rename_i c hc;cases hla:(bK (N args) 4094&& !(fn.name== "runtime.NumGoroutine"))with
      |false=>rw[hla]at h;cases h
      |true=>
       rw[hla,cond_true]at h;simp only[bAt,fD,bFn]at hla;have hlen:=aO hla.1;obtain⟨e,s,hrun,hpost⟩:=OJ h;split at hrun
       ·rename_i b hb;have hsh:∃r0 r1 id ops rest,c= .seq r0 (.seq r1<|.seq (.region id ops false) rest)∧X2 idle r0 r1 id rest ops.toList=some b:=by unfold Q4 at hb;grind
        obtain⟨r0,r1,id,ops,rest,rfl,hb⟩:=hsh;obtain⟨k1,k2,k3,k4,k5,k6,k7,k8,k9⟩:=Yn hb;obtain⟨hidle,hgb⟩:=hi _ _ k9;subst k1;subst k2;subst k3;subst k4;have hops:ops= #[b.o0,b.o1]:=by grind
        unfold TP at hrun;split at hrun
        ·rename_i s0 t0 he0;split at hrun
         ·rename_i s1' t1 he1;split at hrun
          ·rename_i s2 t2 he2;cases hfa:NF s2.env b.t b.g b.m with
           |false=>rw[hfa]at hrun;cases hrun
           |true=>
            rw[hfa,cond_true]at hrun;obtain⟨g3,x3⟩:=P8 hm hG ih fuel _ _ _ _ _ hrun hg;obtain⟨g2,x2⟩:=Z6 (G:=G) ih he2 g3;obtain⟨g1,x1⟩:=P8 hm hG ih fuel _ _ _ _ _ he1 g2;obtain⟨g0,x0⟩:=P8 hm hG ih fuel _ _ _ _ _ he0 g1;refine⟨g0,A5.of_defer hG hfn hc hla.2 hidle hgb hops k6 k7 k8 hlen<|x0.mono ?_⟩;rintro e1 s1'' ⟨rfl,rfl⟩;refine⟨Z,x1.mono ?_⟩;rintro e1 s1'' ⟨rfl,rfl⟩;refine⟨Z,?_⟩;rw[hops];refine x2 ⟨?_,x3.mono ?_⟩;·unfold NF at hfa;split at hfa<;>simp_all
            ·grind
          grind
         grind
        grind
       ·obtain⟨g0,x0⟩:=P8 hm hG ih fuel _ _ _ _ _ hrun hg;refine⟨g0,A5.of_ex hfn hc hla.2 hlen<|x0.mono ?_⟩;grind
     ·cases h
    ·cases h
end
def ss0 (k:Nat)(br:List<|Bool×Nat)(sk:Nat)(sd:List Nat)(ans:List<|AVal×Option Hz)(dr:List Nat):SS:=⟨k,br,sk,sd,ans,dr,[]⟩
theorem Eo {P:Program}{W0:World}{call:CallS}(hc:E3 P W0 call){f:Nat}{args:List AVal}{H:Hz}{ss s1:SS}{v:AVal}{H':Hz}(h:call f args H ss=some (v,H',s1))(hg:∀o∈s1.obs,o.ok P W0):A5 P W0 f args H v H':=(hc _ _ _ _ _ _ _ h hg).2
theorem gdN {P:Program}{W0:World}:∀o∈([]:List Ob),o.ok P W0:=λo h=>Hq
theorem gdC {P:Program}{W0:World}{o:Ob}{l:List Ob}(h:o.ok P W0)(hl:∀o∈l,o.ok P W0):∀o'∈o::l,o'.ok P W0:=λo' h'=>by grind
def bt (s:Bz)(k:Nat):Nat:=(s.getD k 0).toNat
theorem get_bt (s:Bz)(k:Nat):((⟨s.toArray⟩:ByteArray).get! k).toNat=bt s k:=by
 have:(⟨s.toArray⟩:ByteArray).get! k=s.getD k 0:=by
  show(s.toArray)[k]! =_;by_cases h:k<N s;·simp[h]
  ·simp[h];rfl
 rw[this];rfl
def Le (s:Bz)(i n:Nat):Prop:=i+n≤N s∧
 ((n=1∧bt s i<128)∨(n=2∧194≤bt s i∧bt s i≤223∧128≤bt s (i+1)∧bt s (i+1)≤191)
  ∨(n=3∧224≤bt s i∧bt s i≤239∧128≤bt s (i+1)∧bt s (i+1)≤191∧(bt s i=224→160≤bt s (i+1))∧(bt s i=237→bt s (i+1)≤159)∧128≤bt s (i+2)∧bt s (i+2)≤191)
  ∨(n=4∧240≤bt s i∧bt s i≤244∧128≤bt s (i+1)∧bt s (i+1)≤191∧(bt s i=240→144≤bt s (i+1))∧(bt s i=244→bt s (i+1)≤143)∧128≤bt s (i+2)∧bt s (i+2)≤191∧128≤bt s (i+3)∧bt s (i+3)≤191))
theorem MQ (s:Bz)(i:Nat):fT ⟨s.toArray⟩ i=
 (if bt s i<128 then(bt s i,1)
 else if bt s i/32==6&&(decide (i+1<N s)&&bt s (i+1)/64==2)then
  (if(bt s i%32)*64+bt s (i+1)%64≥128 then((bt s i%32)*64+bt s (i+1)%64,2)else(fX,1))
 else if bt s i/16==14&&(decide (i+1<N s)&&bt s (i+1)/64==2)&&(decide (i+2<N s)&&bt s (i+2)/64==2)then
  (if(bt s i%16)*4096+(bt s (i+1)%64)*64+bt s (i+2)%64≥2048&&fV (((bt s i%16)*4096+(bt s (i+1)%64)*64+bt s (i+2)%64:Nat))then((bt s i%16)*4096+(bt s (i+1)%64)*64+bt s (i+2)%64,3)else(fX,1))
 else if bt s i/8==30&&(decide (i+1<N s)&&bt s (i+1)/64==2)&&(decide (i+2<N s)&&bt s (i+2)/64==2)&&(decide (i+3<N s)&&bt s (i+3)/64==2)then
  (if(bt s i%8)*262144+(bt s (i+1)%64)*4096+(bt s (i+2)%64)*64+bt s (i+3)%64≥65536&&fV (((bt s i%8)*262144+(bt s (i+1)%64)*4096+(bt s (i+2)%64)*64+bt s (i+3)%64:Nat))then((bt s i%8)*262144+(bt s (i+1)%64)*4096+(bt s (i+2)%64)*64+bt s (i+3)%64,4)else(fX,1))
 else(fX,1)):=by
 simp_all[ByteArray.size,fT,get_bt]
theorem LZ {s:Bz}{i n:Nat}(h:Le s i n):(fT ⟨s.toArray⟩ i).2=n∧(bt s i<128→(fT ⟨s.toArray⟩ i).1=bt s i)∧(128≤bt s i→128≤(fT ⟨s.toArray⟩ i).1∧2≤n):=by
 obtain⟨hl,h⟩:=h;rw[MQ];rcases h with⟨rfl,h⟩|⟨rfl,h1,h2,h3,h4⟩|⟨rfl,h1,h2,h3,h4,h5,h6,h7,h8⟩|⟨rfl,h1,h2,h3,h4,h5,h6,h7,h8,h9,h10⟩;·grind
 ·grind
 ·generalize bt s i=a at*;generalize bt s (i+1)=b at*;generalize bt s (i+2)=c at*;have e0:¬a/32=6:=Y;have e1:a/16=14:=Y;have e2:b/64=2:=Y;have e2':c/64=2:=Y;have e3:i+1<N s:=Y;have e3':i+2<N s:=Y;have e4:a%16*4096+b%64*64+c%64≥2048:=Y;have e5:fV ((a%16*4096+b%64*64+c%64:Nat))=true:=by simp only[fV,eI,bAt,dTe];omega
  grind
 ·generalize bt s i=a at*;generalize bt s (i+1)=b at*;generalize bt s (i+2)=c at*;generalize bt s (i+3)=d at*;have e0:¬a/32=6:=Y;have e0':¬a/16=14:=Y;have e1:a/8=30:=Y;have e2:b/64=2:=Y;have e2':c/64=2:=Y;have e2'':d/64=2:=Y;have e3:i+1<N s:=Y;have e3':i+2<N s:=Y;have e3'':i+3<N s:=Y;have e4:a%8*262144+b%64*4096+c%64*64+d%64≥65536:=Y;have e5:fV ((a%8*262144+b%64*4096+c%64*64+d%64:Nat))=true:=by simp only[fV,eI,bAt,dTe];omega
  grind
inductive Txt (s:Bz):Nat→Prop where
 |done:Txt s (N s)|step {i n:Nat}:Le s i n→32≤bt s i→bt s i≠127→Txt s (i+n)→Txt s i
theorem Le.pos {s:Bz}{i n:Nat}(h:Le s i n):1≤n:=by obtain⟨_,h⟩:=h;omega
theorem Txt.le {s:Bz}{i:Nat}(h:Txt s i):i≤N s:=by cases h with|done=>exact bC _|step h _ _ _=>have:=h.1;omega
theorem Tc (s:Bz)(i k:Nat):bt (s.drop i) k=bt s (i+k):=by grind[bt]
theorem Le.drop {s:Bz}{i n:Nat}(h:Le s i n):Le (s.drop i) 0 n:=by obtain⟨h1,h⟩:=h;refine⟨by grind,?_⟩;simp_all[Tc]
theorem Txt.shift {s:Bz}{j:Nat}:∀{i:Nat},Txt s i→∀k,i=j+k→Txt (s.drop j) k:=by
 intro i h;induction h with
 |done=>
  intro k hk;have:k=N (s.drop j):=by grind
  rw[this];exact .done
 | @step i n h1 h2 h3 _ ih=>intro k hk;subst hk;have hb:bt (s.drop j) k=bt s (j+k):=Tc s j k;refine .step (n:=n) ?_ Y Y<|ih (k+n) Y;obtain⟨q1,q⟩:=h1;refine⟨by grind,?_⟩;simp only[Tc,←Nat.add_assoc];exact q
theorem Txt.validGo {s:Bz}{i:Nat}(h:Txt s i):∀f,gD f (s.drop i)=true:=by
 induction h with
 |done=>intro f;cases f with|zero=>rfl|succ f=>simp[gD]
 | @step i n h1 _ _ _ ih=>
  intro f;cases f with
  |zero=>rfl
  |succ f=>
   unfold gD;split;·rfl
   ·obtain⟨q1,q2,q3⟩:=LZ h1.drop;have hd:Lib.decodeL (s.drop i)=fT ⟨(s.drop i).toArray⟩ 0:=rfl;have hb:bt (s.drop i) 0=bt s i:=by rw[Tc,Nat.add_zero]
    rw[hb]at q2 q3;rw[if_neg,hd,q1,fM];all_goals grind
theorem Txt.valid {s:Bz}(h:Txt s 0):Lib.validD s=true:=by have:=h.validGo<|N s;rw[List.drop_zero]at this;exact this
theorem Txt.rune {s:Bz}{i:Nat}(h:Txt s i)(hi:i<N s):Txt s (i+(fT ⟨s.toArray⟩ i).2)∧32≤(fT ⟨s.toArray⟩ i).1∧(fT ⟨s.toArray⟩ i).1≠127∧1≤(fT ⟨s.toArray⟩ i).2:=by
 cases h with
 |done=>omega
 | @step _ n h1 h2 h3 h4=>
  obtain⟨q1,q2,q3⟩:=LZ h1;have hp:=h1.pos;rw[q1];refine⟨h4,?_,?_,hp⟩;·omega
  ·omega
theorem Txt.plain {s:Bz}(h:∀i,i<N s→32≤bt s i∧bt s i<127):∀k i,i+k=N s→Txt s i
 |0,i,hi=>by
  have:i=N s:=by omega
  subst this;exact .done
 |k+1,i,hi=>by obtain⟨h1,h2⟩:=h i Y;exact .step (n:=1) ⟨Y,.inl ⟨Z,Y⟩⟩ h1 Y<|Txt.plain h k (i+1) Y
section
variable {F F' : Nat → Prop} {bs bs0 : List Nat} {H H0 : Hz} {w : World} {ρ : Nat → Nat} {m : Nat}
theorem A5.renG {P:Program}{W0:World}{f:FuncId}{args:List AVal}{H H0 H0':Hz}{v:AVal}(sel:List Nat)(ρ:Nat→Nat)(hs:Sel sel (N H0) H0 H ρ)(hbH:B7 (N H0) H0=true)(hba:A8 (N H0) args=true)
 (hl:N H0≤N H0') (hρ:∀j,N H0≤j→j<N H0'→ρ j=N H+(j-N H0)) (hc:A5 P W0 f args H0 v H0'):A5 P W0 f (F9 ρ args) H (Abs.ren ρ v) (Ei (sel++gB (N H) (N H0'-N H0)) (H0'.map<|G7 ρ)<|H++fH (N H0'-N H0) .dead):=by
 refine⟨hc.1,λF bs w cargs hh hr=>?_⟩;have hbl:N bs=N H:=hh.len;let bs0:List Nat:=sel.map λi=>bs.getD i 0;have hbs0:∀j i,sel[j]?=some i→bs0[j]?=bs[i]?:=λj i hj=>by
  have hi:i<N bs:=by rw[hbl];exact hs.lt i<|mGe hj
  show(sel.map λi=>bs.getD i 0)[j]?=bs[i]?;grind
 have hbsl:N bs0=N H0:=bY206;have hsub:∀b,b∈bs0→b∈bs:=λb hb=>by grind[eX]
 let F':Nat→Prop:=λb=>F b∨(b∈bs∧b∉bs0);have hdown:NW F F' bs bs0 H H0 ρ (N H0):=by refine⟨λj hj=>?_,λj hj=>hbs0 j (ρ j)<|hs.rho j hj,hsub,λb hb=>hb.imp id And.left⟩;exact⟨H0[j],gGe hj,hs.get j _<|gGe hj⟩
 have hnd0:bs0.Nodup:=by
  refine Sv λi j b hij h1 h2=>?_;have hi':i<N sel:=by grind
  have hj':j<N sel:=by grind
  rw[hbs0 i _<|gGe hi']at h1;rw[hbs0 j _<|gGe hj']at h2;have:=Ea hh.nodup h1 h2;have h2:=Ea hs.nd (i:=i) (j:=j) (gGe hi') (by grind);omega
 have hh0:Ae W0 F' bs0 H0 w:=by
  refine⟨hbsl,hh.base,λb hb=>hh.low b<|hsub b hb,hnd0,λb hb=>?_,λi o b hi hb=>?_⟩
  ·rcases hb with hb|⟨hb,hn⟩;·obtain⟨q1,q2,q3⟩:=hh.forb b hb<;>grind
   ·exact⟨(hh.low b hb).1,(hh.low b hb).2,hn⟩
  ·have hil:i<N H0:=(aC.1 hi).1;have hb':bs[ρ i]?=some b:=by rw[←hdown.blk i hil];exact hb
   have ho:=hh.obj (ρ i) (G7 ρ o) b (hs.get i o hi) hb';cases o with
   |dead=>trivial|iter s p=>exact ho|mp es=>exact ho
   |cells T cs op=>
    have hcs:=P9 hbH hi;cases op with
    |false=>obtain⟨vs,rest,fr,q1,q2,q3⟩:=ho;exact⟨vs,rest,fr,q1,Ab.down hdown cs vs hcs q2,q3⟩
    |true=>obtain⟨vs,rest,fr,q1,q2,q3⟩:=ho;exact⟨vs,rest,fr,q1,Ab.down hdown cs vs hcs q2,q3⟩
 refine eU (hc.2 F' bs0 w cargs hh0<|Ab.down hdown args cargs hba hr) λe w' he=>?_;obtain⟨cv,bs0',rfl,hv,hh',he'⟩:=he;let k:=N H0'-N H0;let sel':=sel++gB (N H) k;let Hp:=H++fH k HObj.dead;let bp:=bs++fH k 0;have hHp:N Hp=N H+k:=by grind
 have hbp:N bp=N H+k:=by grind
 have hselN:∀i,i∈gB (N H) k↔N H≤i∧i<N H+k:=λi=>by grind
 have hnd':sel'.Nodup:=List.nodup_append.2 ⟨hs.nd,List.nodup_range',λa ha b hb e=>by
  subst e;have:=hs.lt _ ha
  grind⟩
 have hsl':N sel'=N H0':=by grind
 have hl0':N bs0'=N sel':=by rw[hh'.len,hsl']
 have hsl:N sel'=N H0':=hsl';have hlt':∀i∈sel',i<N H+k:=λi hi=>by
  rcases List.mem_append.1 hi with h|h;·have:=hs.lt _ h;omega
  grind
 let H':=Ei sel' (H0'.map<|G7 ρ) Hp;let bs':=Ei sel' bs0' bp;have hH'l:N H'=N H+k:=by grind[Gx]
 have hbs'l:N bs'=N H+k:=by grind[Gx]
 have inj0:∀(j:Nat),j<N H0→sel[j]?=some (ρ j):=hs.rho;have inj:∀(j:Nat),j<N H0'→sel'[j]?=some (ρ j):=λj hj=>by grind
 have getO:∀j o,H0'[j]?=some o→H'[ρ j]?=some (G7 ρ o):=λj o ho=>by grind[Ig]
 have getB:∀j b,bs0'[j]?=some b→bs'[ρ j]?=some b:=λj b hb=>by grind[Ig]
 have noSel:∀i,i<N H→(i∈sel'↔i∈sel):=λi hi=>by grind
 have noO:∀i,i<N H→i∉sel→H'[i]?=H[i]?:=λi hl hi=>by grind[Il]
 have noB:∀i,i<N H→i∉sel→bs'[i]?=bs[i]?:=λi hl hi=>by grind[Il]
 have selj:∀i,i∈sel→∃j,j<N H0∧ρ j=i∧sel[j]?=some i:=λi hi=>by grind[eX]
 have getB':∀i b,bs'[i]?=some b→(i<N H∧i∉sel∧bs[i]?=some b)∨∃j,j<N H0'∧ρ j=i∧bs0'[j]?=some b:=λi b hb=>by
  have hi:i<N H+k:=by grind
  have yes:∀j,j<N H0'→ρ j=i→bs0'[j]?=some b:=λj hj he=>by grind
  by_cases hil:i<N H;·by_cases his:i∈sel;all_goals grind
  ·have hj:N H0+(i-N H)<N H0':=by omega
   have he:ρ (N H0+(i-N H))=i:=by grind
   grind
 have notin:∀i b,i∉sel→bs[i]?=some b→b∉bs0:=λi b hi hb hm=>by
  obtain⟨j,hj⟩:=eX hm;have hjl:j<N sel:=by grind
  rw[hbs0 j sel[j]<|gGe hjl]at hj;have:=Ea hh.nodup hb hj;grind
 have memB':∀b,b∈bs'→(b∈bs∧b∉bs0)∨b∈bs0':=λb hb=>by obtain⟨i,hi⟩:=eX hb;rcases getB' i b hi with⟨_,h1,h2⟩|⟨j,_,_,h3⟩<;>grind
 have hup:Up F F' bs' bs0' H' H0' ρ:=by refine⟨getO,getB,λb hb hf=>⟨λhm=>?_,λhF=>hf<|.inl hF⟩⟩<;>grind
 have hext:Ext bs H w bs' H' w':=by
  refine⟨he'.size,λk hk hn=>he'.block k hk λhm=>hn<|hsub k hm,λk hk=>?_,λi o ho=>?_⟩
  ·rcases memB' k hk with h1|h1;·grind
   ·rcases he'.new k h1 with h2|h2<;>grind
  ·by_cases hi:i∈sel
   ·obtain⟨j,hj,rfl,hsj⟩:=selj i hi;have ho0:=gGe hj;have hoo:=hs.get j _ ho0;rw[ho]at hoo;injection hoo with hoo;obtain⟨o',hj',hx⟩:=he'.obj j _ ho0;refine⟨G7 ρ o',getO j o' hj',?_⟩;have hbj:bs0[j]?=bs[ρ j]?:=hbs0 j _ hsj;have hbj':bs0'[j]?=bs'[ρ j]?:=by grind
    rw[hoo];cases hc0:H0[j]with
    |dead=>rw[hc0]at hx;simp only[Bi]at hx;subst hx;rfl
    |iter s p=>
     rw[hc0]at hx;rcases hx with rfl|⟨s',p',rfl,hb⟩;·exact .inl Z
     ·exact .inr ⟨s',p',Z,by grind⟩
    |mp es=>
     rw[hc0]at hx;rcases hx with rfl|⟨es',rfl,hb⟩;·exact .inl Z
     ·exact .inr ⟨es',Z,by grind⟩
    |cells T cs op=>
     rw[hc0]at hx;cases op with
     |false=>
      rcases hx with rfl|⟨T',cs',rfl,h1,hb⟩;·exact .inl Z
      ·exact .inr ⟨T',_,Z,by grind[Dp],by grind⟩
     |true=>
      rcases hx with rfl|⟨T',cs',rfl,h1⟩;·exact .inl Z
      ·refine .inr ⟨T',_,Z,?_⟩<;>grind[Dp]
   ·have hil:=(aC.1 ho).1;refine⟨o,by grind,?_⟩;have hb:=noB i hil hi;have hz:∀b,bs[i]?=some b→Dj w' b=Dj w b:=λb hb'=>by unfold Dj;rw[he'.block b (hh.low b<|mGe hb').2 (notin i b hi hb')]
    cases o with|dead=>rfl|iter s p=>exact .inr ⟨s,p,rfl,hb⟩|mp es=>exact .inr ⟨es,rfl,hb⟩|cells T cs op=>cases op with|false=>exact .inr ⟨T,cs,rfl,rfl,hb⟩|true=>exact .inr ⟨T,cs,rfl,.inr ⟨rfl,hb,hz⟩⟩
 refine⟨cv,bs',Z,Rep.up hup v cv hv,?_,hext⟩;refine⟨by grind,hh'.base,λb hb=>?_,?_,λb hb=>?_,λi o b hi hb=>?_⟩
 ·rcases memB' b hb with h1|h1;·exact⟨(hh.low b h1.1).1,nLl (hh.low b h1.1).2 he'.size⟩
  ·exact hh'.low b h1
 ·refine Sv λi j b hij e hb=>?_;rcases getB' i b e with⟨_,h1,h2⟩|⟨i',h1,h2,h3⟩<;>rcases getB' j b hb with⟨_,k1,k2⟩|⟨j',k1,k2,k3⟩;·have:=Ea hh.nodup h2 k2;omega
  ·exact(hh'.forb b<|.inr ⟨mGe h2,notin i b h1 h2⟩).2.2 (mGe k3)
  ·exact(hh'.forb b<|.inr ⟨mGe k2,notin j b k1 k2⟩).2.2 (mGe h3)
  ·have:=Ea hh'.nodup h3 k3;grind
 ·obtain⟨q1,q2,q3⟩:=hh'.forb b<|.inl hb;refine⟨q1,q2,λhm=>?_⟩;rcases memB' b hm with h1|h1;·exact(hh.forb b hb).2.2 h1.1
  grind
 ·rcases getB' i b hb with⟨h0,h1,h2⟩|⟨j,hjl,rfl,h3⟩;·rw[noO i h0 h1]at hi;exact(hh.obj i o b hi h2).ext hext (he'.block b (hh.low b<|mGe h2).2 (notin i b h1 h2))
  ·have h4:=getO j _<|gGe hjl;rw[hi]at h4;injection h4 with h4;have h5:=hh'.obj j _ b (gGe hjl) h3;rw[h4];cases hc0:H0'[j]with
   |dead=>trivial|iter s p=>rw[hc0]at h5;exact h5|mp es=>rw[hc0]at h5;exact h5
   |cells T cs op=>
    rw[hc0]at h5;cases op with
    |false=>obtain⟨vs,rest,fr,q1,q2,q3⟩:=h5;exact⟨vs,rest,fr,q1,Ab.up hup cs vs q2,q3⟩
    |true=>obtain⟨vs,rest,fr,q1,q2,q3⟩:=h5;exact⟨vs,rest,fr,q1,Ab.up hup cs vs q2,q3⟩
end
structure Ord (P:Program)(ops:Array Oper)(n:Nat)(mk:Nat→Nat→Bool):Prop where
 back:∀(j:Nat) (o:Oper),ops[j]?=some o→∀e∈o.after,Region.binds .any e=true→e.on<j
 mask:∀(j:Nat) (o:Oper) (i:Nat),ops[j]?=some o→mk j i=true→∃e∈o.after,Region.binds .any e=true∧(e.on=i∨mk e.on i=true)
 uniq:∀(i j:Nat) (oi oj:Oper) (t:Nat),ops[i]?=some oi→ops[j]?=some oj→oi.dst=some t→oj.dst=some t→i=j
 rd:∀(j:Nat) (oj:Oper) (t:Nat),ops[j]?=some oj→t∈Abs.reads P ops oj→∀(i:Nat) (oi:Oper),ops[i]?=some oi→oi.dst=some t→mk j i=true∨mk i j=true
 dst:∀(j:Nat) (o:Oper),ops[j]?=some o→E7 o.dst n=true
def I6 (ops:Array Oper)(e0:Env)(vs:Nat→AVal):Nat→Env
 |0=>e0
 |k+1=>match ops[k]? with
  |some o=>Ep o.dst (vs k) (I6 ops e0 vs k)|none=>I6 ops e0 vs k
def Oj (ops:Array Oper)(vs:Nat→AVal)(e0:Env)(done:Nat→Prop)(e:Env):Prop:=∀t,(∃(i:Nat) (o:Oper),ops[i]?=some o∧done i∧o.dst=some t∧e.get t=some (vs i))∨((∀(i:Nat) (o:Oper),ops[i]?=some o→o.dst=some t→¬done i)∧e.get t=e0.get t)
section
variable {P : Program} {ops : Array Oper} {n : Nat} {mask : Nat → Nat → Bool} {e0 : Env} {vs us : Nat → AVal}
theorem Oj.step (hp:Ord P ops n mask){done done':Nat→Prop}{e:Env}(h:Oj ops vs e0 done e){j:Nat}{o:Oper}(hj:ops[j]?=some o)(hd:∀i,done' i↔done i∨i=j):
 Oj ops vs e0 done' (Ep o.dst (vs j) e):=by
 have hdo:=hp.dst j o hj;intro t;cases ho:o.dst with
 |none=>
  simp only[Ep];rcases h t with⟨i,oi,h1,h2,h3,h4⟩|⟨h1,h2⟩;·grind
  ·grind
 |some d=>
  rw[ho]at hdo
  have hlt:d<n∧d<4094:=by grind[E7,Nat.blt_eq]
  simp only[Ep];rw[Env.get_put 12 d (vs j) e t<|Nat.add_le_add_right (eP hlt.2) 2];by_cases htd:t=d;·grind
  ·rw[if_neg htd];rcases h t with⟨i,oi,h1,h2,h3,h4⟩|⟨h1,h2⟩<;>grind
theorem Oj.seq (hp:Ord P ops n mask):∀j,j≤ops.size→Oj ops vs e0 (λi=>i<j) (I6 ops e0 vs j)
 |0,_=>λt=>.inr ⟨λi o _ _ h=>absurd h<|fZ i,rfl⟩|j+1,hj=>by have ho:ops[j]?=some (ops[j]'(Y)):=eE Y;have:=(Oj.seq hp j Y).step hp ho (done':=λi=>i<j+1) (λi=>by constructor<;>intro h<;>omega);simp only[I6,ho];exact this
theorem Oj.agree (hp:Ord P ops n mask){d1 d2:Nat→Prop}{e1 e2:Env}(h1:Oj ops vs e0 d1 e1)(h2:Oj ops us e0 d2 e2){t:Nat}(h:∀(i:Nat) (o:Oper),ops[i]?=some o→o.dst=some t→(d1 i↔d2 i)∧(d1 i→vs i=us i)):e1.get t=e2.get t:=by
 rcases h1 t with⟨i,o,a1,a2,a3,a4⟩|⟨a1,a2⟩
 ·rcases h2 t with⟨k,ok,b1,b2,b3,b4⟩|⟨b1,b2⟩;·have:=hp.uniq i k o ok t a1 b1 a3 b3;grind
  grind
 ·rcases h2 t with⟨k,ok,b1,b2,b3,b4⟩|⟨b1,b2⟩<;>grind
theorem Ord.lt (hp:Ord P ops n mask):∀{j i:Nat}{o:Oper},ops[j]?=some o→mask j i=true→i<j:=by
 intro j;induction j using eF with
 |_ x ihx=>
  intro y ox hox hm;obtain⟨ed,hed,hb,h⟩:=hp.mask x ox y hox hm;have hlt:=hp.back x ox hox ed hed hb;rcases h with rfl|h;·exact hlt
  ·grind
theorem Ord.down (hp:Ord P ops n mask){listed:Array Bool}(hsz:listed.size=ops.size)
 (down:∀(j:Nat) (o:Oper),ops[j]?=some o→listed.getD j true=true→∀e∈o.after,eC .any e=true→listed.getD e.on false=true):
 ∀(j:Nat) (o:Oper),ops[j]?=some o→(∀e∈o.after,eC .any e=true→listed.getD e.on false=true)→∀i,mask j i=true→listed.getD i true=true:=by
 intro j;induction j using eF with
 |_ j ih=>
  intro o ho hpre i hm;obtain⟨e,he,hb,h⟩:=hp.mask j o i ho hm;have hlt:=hp.back j o ho e he hb;have hl:=hpre e he hb;have hj:=(dZ.1 ho).1;have hon:e.on<listed.size:=Y;have hl':listed.getD e.on true=true:=by grind
  rcases h with rfl|h;·exact hl'
  ·grind
theorem Ord.all (hp:Ord P ops n mask){listed:Array Bool}(hsz:listed.size=ops.size)(hr:eH .any ops listed=[]):∀j,j<ops.size→listed.getD j true=true:=by
 intro j;induction j using eF with
 |_ j ih=>
  intro hj;cases hl:listed.getD j true with
  |true=>rfl
  |false=>
   have ho:ops[j]?=some (ops[j]'hj):=eE hj
   have:j∈eH .any ops listed:=mem_ready.2 ⟨hl,_,ho,λe he hb=>by
    have hlt:=hp.back j _ ho e he hb
    grind⟩
   rw[hr]at this;cases this
theorem X8 :∀(k:Nat),(∀i,i<k→vs i=us i)→I6 ops e0 vs k=I6 ops e0 us k
 |0,_=>rfl|k+1,h=>by simp only[I6,X8 k<|λi hi=>h i Y,h k Y]
def Yz (ops:Array Oper)(e0:Env)(R:Nat→Env→AVal→Prop)(vs:Nat→AVal)(m:Nat):Prop:=∀i,i<m→R i (I6 ops e0 vs i) (vs i)
theorem AR {R:Nat→Env→AVal→Prop}{M:Nat}(hex:∀vs k,k<M→Yz ops e0 R vs k→∃v,R k (I6 ops e0 vs k) v)(D:Nat→Prop)(u:Nat→AVal)
 (hD:∀vs i,i<M→D i→Yz ops e0 R vs i→(∀k,k<i→D k→vs k=u k)→R i (I6 ops e0 vs i) (u i)):∀m,m≤M→∃vs,Yz ops e0 R vs m∧∀i,i<m→D i→vs i=u i
 |0,_=>⟨λ_=>.nilIf,λi hi=>absurd hi<|fZ i,λi hi=>absurd hi<|fZ i⟩
 |m+1,hm=>by
  obtain⟨vs,h1,h2⟩:=AR hex D u hD m Y;have key:∀x,R m (I6 ops e0 vs m) x→(D m→x=u m)→∃vs,Yz ops e0 R vs (m+1)∧∀i,i<m+1→D i→vs i=u i:=by
   intro x hx hu;have hs:∀i,i<m→(λi=>if i=m then x else vs i) i=vs i:=λi hi=>if_neg Y;refine⟨λi=>if i=m then x else vs i,λi hi=>?_,λi hi hd=>?_⟩
   ·have he:I6 ops e0 (λi=>if i=m then x else vs i) i=I6 ops e0 vs i:=X8 i λk hk=>hs k Y;rw[he];by_cases him:i=m;·grind
    ·simpa[him]using h1 i Y
   grind
  by_cases hd:D m;all_goals grind
end
def OpGo (P:Program)(ops:Array Oper)(o:Oper)(a:Act)(w:World)(next:Act→World→Prop)(Q:Exit→Act→World→Prop):Prop:=if eO o (yielded ops a.tmps)then o.wp P a w next Q∨(o.asks P a w∧LetsOut Q)else next (a.put o.dst undef) w
def lbOf (ja:Option Nat)(listed:Array Bool):Bool:=match ja with
 |none=>false|some j=>listed.getD j true
section
variable {P : Program} {W0 : World} {ops : Array Oper} {mask : Nat → Nat → Bool} {F : Nat → Prop}
structure InvR (P:Program)(W0:World)(ops:Array Oper)(s:St)(M:Nat)(R:Nat→Env→AVal→Prop)(HB:Bool→Hz)(ja:Option Nat)(F:Nat→Prop)(bs:List Nat)(a0:Act)(w0:World)(listed:Array Bool)(a:Act)(w:World):Prop where
 size:listed.size=ops.size
 down:∀(j:Nat) (o:Oper),ops[j]?=some o→listed.getD j true=true→∀e∈o.after,Region.binds .any e=true→listed.getD e.on false=true
 last:listed.getD M true=false
 go:∃(vs:Nat→AVal) (e:Env) (bs':List Nat),Yz ops s.env R vs M∧RS W0 F bs' ⟨e,HB<|lbOf ja listed,s.n⟩ a w∧Ext bs s.H w0 bs' (HB<|lbOf ja listed) w∧a.defers=a0.defers∧Oj ops vs s.env (λi=>listed.getD i true=true) e
theorem ML {s:St}{M:Nat}(hM:ops.size=M+1)(hp:Ord P ops s.n mask)(hlm:∀i,i<M→mask M i=true){R:Nat→Env→AVal→Prop}{HB:Bool→Hz}{ja:Option Nat}(hja:∀j,ja=some j→j<M){K:St→Prop}
 (hR:∀(j:Nat) (o:Oper) (e e':Env) (v:AVal),ops[j]?=some o→(∀t∈reads P ops o,e.get t=e'.get t)→R j e v→R j e' v)
 (hex:∀vs k,k<M→Yz ops s.env R vs k→∃v,R k (I6 ops s.env vs k) v)
 (hrun:∀vs j o,j<M→ops[j]?=some o→Yz ops s.env R vs j→∀(b:Bool) (e':Env) (bs:List Nat) (a:Act) (w:World) (next:Act→World→Prop) (Q:Exit→Act→World→Prop),(ja=some j→b=false)→(∀t∈reads P ops o,(I6 ops s.env vs j).get t=e'.get t)→RS W0 F bs ⟨e',HB b,s.n⟩ a w→
  (∀v bs' a' w',R j (I6 ops s.env vs j) v→RS W0 F bs' ⟨Ep o.dst v e',HB (decide (ja=some j)||b),s.n⟩ a' w'→Ext bs (HB b) w bs' (HB (decide (ja=some j)||b)) w'→a'.defers=a.defers→next a' w')→OpGo P ops o a w next Q)
 (hfin:∀vs o,ops[M]?=some o→Yz ops s.env R vs M→∀(e':Env) (bs:List Nat) (a:Act) (w:World) (next:Act→World→Prop) (Q:Exit→Act→World→Prop),(∀t,(I6 ops s.env vs M).get t=e'.get t)→RS W0 F bs ⟨e',HB ja.isSome,s.n⟩ a w→
  (∀s' bs' a' w',K s'→RS W0 F bs' s' a' w'→Ext bs (HB ja.isSome) w bs' s'.H w'→a'.defers=a.defers→next a' w')→OpGo P ops o a w next Q)
 {bs:List Nat}{a0:Act}{w0:World}{Q:Exit→Act→World→Prop}
 (hQ:∀s' bs' a w,K s'→RS W0 F bs' s' a w→Ext bs s.H w0 bs' s'.H w→a.defers=a0.defers→Q .normal a w):
 ∀(fuel:Nat) (listed:Array Bool) (a:Act) (w:World),InvR P W0 ops s M R HB ja F bs a0 w0 listed a w→N (unl ops.size listed)≤fuel→wpAny P .any ops Q fuel listed a w:=by
 have nofin:∀(listed:Array Bool) (a:Act) (w:World),InvR P W0 ops s M R HB ja F bs a0 w0 listed a w→eH .any ops listed≠[]:=λlisted a w hi hr=>by have:=hp.all hi.size hr M Y;rw[hi.last]at this;cases this
 intro fuel;induction fuel with
 |zero=>
  intro listed a w hi hu;exfalso;have:M∈unl ops.size listed:=by unfold unl;rw[List.mem_filter,fC];exact⟨Y,by rw[hi.last];rfl⟩
  rw[List.length_eq_zero_iff.1<|Nat.le_zero.1 hu]at this;cases this
 |succ fuel ih=>
  intro listed a w hi hu;refine⟨λhr=>absurd hr<|nofin listed a w hi,λj hj=>?_⟩;obtain⟨hjl,o,ho,hpre⟩:=mem_ready.1 hj;have hjs:j<ops.size:=(dZ.1 ho).1;obtain⟨vs,e,bs',h0,h1,h2,h3,h6⟩:=hi.go;have hmj:=hp.down hi.size hi.down j o ho hpre;have hdn:∀i o,ops[i]?=some o→listed.getD i true=true→∀k,mask i k=true→listed.getD k true=true:=λi o hio hl k hm=>hp.down hi.size hi.down i o hio (λe he hb=>hi.down i o hio hl e he hb) k hm;have hnot:∀i,i<ops.size→mask i j=true→listed.getD i true=false:=by grind
  have hset:∀i,i≠j→(listed.setIfInBounds j true).getD i true=listed.getD i true:=λi hij=>getD_set_ne true<|Ne.symm hij;have hsetj:(listed.setIfInBounds j true).getD j true=true:=by simp[eJ,Array.getElem?_setIfInBounds_self_of_lt (show j<listed.size by grind)]
  have hrd:∀t∈reads P ops o,(I6 ops s.env vs j).get t=e.get t:=by
   intro t ht;refine Oj.agree hp (Oj.seq hp j<|eP hjs) h6 λi oi hio hti=>⟨?_,λ_=>Z⟩;have his:i<ops.size:=(dZ.1 hio).1;rcases hp.rd j o t ho ht i oi hio hti with hm|hm;·exact⟨λ_=>hmj i hm,λ_=>hp.lt ho hm⟩
   ·have:=hnot i his hm;have hlt:=hp.lt hio hm;grind
  unfold wpOp;rw[ho];simp only;by_cases hjM:j=M
  ·subst hjM;have hall:∀i,i<j→listed.getD i true=true:=λi hi'=>hmj i<|hlm i hi';have hlb:lbOf ja listed=ja.isSome:=by cases hja':ja with|none=>rfl|some q=>exact hall q (hja q hja')
   rw[hlb]at h1 h2;refine hfin vs o ho h0 e bs' a w _ Q (λt=>?_) h1 λs' bs'' a' w' hk hrs hext hdf=>?_;·refine Oj.agree hp (Oj.seq hp j<|eP hjs) h6 λi oi hio _=>⟨?_,λ_=>Z⟩;grind
   ·have hq:Q .normal a' w':=hQ s' bs'' a' w' hk hrs (h2.trans hext)<|hdf.trans h3;have hnil:eH .any ops (listed.setIfInBounds j true)=[]:=by
     cases hr:eH .any ops (listed.setIfInBounds j true)with
     |nil=>rfl
     |cons q r=>
      have hq':q∈eH .any ops (listed.setIfInBounds j true):=by grind
      obtain⟨g1,oq,g2,_⟩:=mem_ready.1 hq';have hqs:=(dZ.1 g2).1;by_cases hqj:q=j;·grind
      ·grind
    cases fuel with|zero=>exact⟨hnil,hq⟩|succ f=>exact⟨λ_=>hq,λi hi'=>by grind⟩
  ·have hjm:j<M:=by omega
   have hb0:ja=some j→lbOf ja listed=false:=λh=>by rw[h];exact hjl
   refine hrun vs j o hjm ho (λi hi'=>h0 i Y) (lbOf ja listed) e bs' a w _ Q hb0 hrd h1 λv bs'' a' w' hv hrs hext hdf=>?_;have hlb:lbOf ja (listed.setIfInBounds j true)=(decide (ja=some j)||lbOf ja listed):=by cases hja':ja<;>grind[lbOf]
   obtain⟨us,g1,g2⟩:=AR (R:=R) (M:=M) hex (λi=>listed.getD i true=true∧i<ops.size∨i=j) (λi=>if i=j then v else vs i) (λxs i hiM hD hx hag=>by
    have hsame:∀(oi:Oper),ops[i]?=some oi→∀t∈reads P ops oi,(I6 ops s.env vs i).get t=(I6 ops s.env xs i).get t:=by
     intro oi hoi t ht;refine Oj.agree hp (Oj.seq hp i Y) (Oj.seq hp i Y) λk ok hk hkt=>⟨Iff.rfl,λhki=>?_⟩;have hks:k<ops.size:=(dZ.1 hk).1;rcases hp.rd i oi t hoi ht k ok hk hkt with hm|hm;·grind
     ·have:=hp.lt hk hm;omega
    have his:i<ops.size:=Y;have hoi:ops[i]?=some (ops[i]'his):=eE his;by_cases hij:i=j;·grind
    ·rw[if_neg hij]
     exact hR i _ _ _ _ hoi (hsame _ hoi) (h0 i hiM)) M (bC _)
   refine ih (listed.setIfInBounds j true) a' w' ⟨by simp[hi.size],λk ok hk hkl ed hed hb=>?_,by grind,us,_,bs'',g1,by rw[hlb];exact hrs,by rw[hlb];exact h2.trans hext,hdf.trans h3,?_⟩ ?_
   ·by_cases hkj:k=j;·grind
    ·rw[getD_set_ne true<|Ne.symm hkj]at hkl;exact getD_set_true<|hi.down k ok hk hkl ed hed hb
   ·have huj:us j=v:=by grind
    have h7:Oj ops us s.env (λi=>listed.getD i true=true) e:=by intro t;rcases h6 t with⟨i,oi,q1,q2,q3,q4⟩|q;all_goals grind
    have:=h7.step hp ho (done':=λi=>(listed.setIfInBounds j true).getD i true=true) λi=>by grind
    grind
   ·have:=JJ hjs hi.size.symm hjl;omega
end
def Vu (RC:FuncId→List AVal→AVal→Prop)(G:List<|Nat×AVal)(H:Hz)(n:Nat)(op:AOp)(e:Env)(v:AVal):Prop:=match aop G ⟨e,H,n⟩ op with|some (.val u _ _)=>v=u|some (.call f args)=>RC f args v|_=>False
section
variable (P : Program) (W0 : World) (G : List (Nat × AVal)) (RC : FuncId → List AVal → AVal → Prop) (HB : Bool → Hz) (ja : Option Nat) (n : Nat)
def Vm (j:Nat)(op:AOp)(e:Env):Prop:=match aop G ⟨e,HB false,n⟩ op with|some (.val u H' side)=>Ah side∧(ja=some j∧H'=HB true∨ja≠some j∧H'=HB false∧aop G ⟨e,HB true,n⟩ op=some (.val u (HB true) side))|some (.call f args)=>ja≠some j∧aop G ⟨e,HB true,n⟩ op=some (.call f args)∧Aw P W0 f args (RC f args)∧A8 0 args=true∧(∀v,RC f args v→blw 0 v=true)∧∃v,RC f args v|_=>False
def Gu :List AOper→Nat→Env→(St→Prop)→Prop
 | [],_,_,_=>False
 |o::r,j,e,K=>match r with
  | []=>E7 o.dst n=true∧Hj P W0 G o ⟨e,HB ja.isSome,n⟩ K|_::_=>o.guard=none∧E7 o.dst n=true∧Vm P W0 G RC HB ja n j o.op e∧∀v,Vu RC G (HB false) n o.op e v→Gu r (j+1) (Ep o.dst v e) K
end
section
variable {P : Program} {W0 : World} {G : List (Nat × AVal)} {RC : FuncId → List AVal → AVal → Prop} {HB : Bool → Hz} {ja : Option Nat} {n : Nat}
theorem Vm.ex {j:Nat}{op:AOp}{e:Env}(h:Vm P W0 G RC HB ja n j op e):∃v,Vu RC G (HB false) n op e v:=by unfold Vm at h;unfold Vu;split at h<;>grind
theorem Vh {ops:Array Oper}{o:Oper}{a:AOper}(h:B5 P ops o=some a):Au P o.op=some a.op∧(a.guard=none→o.guard=none):=by
 unfold B5 at h;cases hg:Dm ops o.guard with
 |none=>rw[hg]at h;cases h
 |some g=>
  rw[hg]at h;simp only at h;cases hop:Au P o.op with
  |none=>rw[hop]at h;cases h
  |some op=>
   rw[hop]at h;injection h with h;subst h;refine⟨Z,λhn=>?_⟩;simp only at hn;cases ho:o.guard with
   |none=>rfl
   |some q=>
    obtain⟨j,w⟩:=q;rw[ho]at hg;simp only[Dm]at hg;cases hd:(ops[j]?).bind (·.dst)with
    |none=>rw[hd]at hg;cases hg
    |some d=>rw[hd]at hg;injection hg with hg;rw[hn]at hg;cases hg
theorem NR {ops:Array Oper}{l:List AOper}{s:St}{K:St→Prop}{R:Nat→Env→AVal→Prop}(hl:∀(j:Nat) (a:AOper),l[j]?=some a→∃o,ops[j]?=some o∧B5 P ops o=some a)
 (hR:∀(j:Nat) (a:AOper) (e:Env) (v:AVal),l[j]?=some a→(R j e v↔Vu RC G (HB false) n a.op e v)) (h:Gu P W0 G RC HB ja n l 0 s.env K):
 ∀(vs:Nat→AVal) (k:Nat),k<N l→Yz ops s.env R vs k→Gu P W0 G RC HB ja n (l.drop k) k (I6 ops s.env vs k) K:=by
 intro vs k;induction k with|zero=>intro _ _;exact h|succ k ih=>intro hk hv;have hk0:k<N l:=Y;have h1:=ih hk0 λi hi=>hv i Y;have hd:l.drop k=l[k]::l.drop (k+1):=fQ hk0;have hd1:l.drop (k+1)=l[k+1]::l.drop (k+2):=fQ hk;rw[hd,hd1]at h1;obtain⟨_,_,_,h2⟩:=h1;have ha:l[k]?=some l[k]:=gGe hk0;obtain⟨o,ho,hc⟩:=hl k _ ha;have h3:=h2 (vs k)<|(hR k _ _ _ ha).1 (hv k Y);rw[hd1];simp only[I6,ho];rw[←D8 hc];exact h3
theorem ExM.drawP (hg:Gr P W0 G){m:Nat}(RC:FuncId→List AVal→AVal→Prop)(HB:Bool→Hz)(ja:Option Nat){l:List AOper}{p:SP}{s:St}{K:Aj→St→Prop}(hb0:HB false=s.H)
 (hlast:((eD<|N l-1).all λi=>p.msk (N l-1) i)=true) (hja:∀j,ja=some j→j<N l-1) (h:Gu P W0 G RC HB ja s.n l 0 s.env<|K .normal):ExM P W0 m (.drawC l p) s K:=ExM.of λc hc=>by
 obtain⟨id,ops,rfl,h1,h2⟩:=V6 hc;obtain⟨hcl,hcg⟩:=D4 h1;have hsz:N l=ops.size:=Y;have hpos:0<N l:=by cases l with|nil=>exact h.elim|cons _ _=>simp
 have hl:∀j a,l[j]?=some a→∃o,ops[j]?=some o∧B5 P ops o=some a:=λj a ha=>by have hj:=(aC.1 ha).1;have ho:ops[j]?=some (ops[j]'(Y)):=eE Y;obtain⟨a',e1,e2⟩:=hcg j _ (by rw[Array.getElem?_toList];exact ho);rw[ha]at e1;injection e1 with e1;subst e1;exact⟨_,ho,e2⟩
 let R:Nat→Env→AVal→Prop:=λj e v=>match l[j]? with
  |some a=>Vu RC G (HB false) s.n a.op e v|none=>False
 have hR:∀j a e v,l[j]?=some a→(R j e v↔Vu RC G (HB false) s.n a.op e v):=λj a e v ha=>by grind
 have hat:=NR (s:=s) hl hR h;have hex:∀vs k,k<N l-1→Yz ops s.env R vs k→∃v,R k (I6 ops s.env vs k) v:=λvs k hk hv=>by have hk0:k<N l:=Y;have h3:=hat vs k hk0 hv;have hd:l.drop k=l[k]::l.drop (k+1):=fQ hk0;have hd1:l.drop (k+1)=l[k+1]'(Y)::l.drop (k+2):=fQ Y;rw[hd,hd1]at h3;obtain⟨v,hv⟩:=h3.2.2.1.ex;exact⟨v,(hR k _ _ _<|gGe hk0).2 hv⟩
 have hdst:∀(j:Nat) (a:AOper),l[j]?=some a→E7 a.dst s.n=true:=by obtain⟨vs,hv,_⟩:=AR (ops:=ops) (e0:=s.env) hex (λ_=>False) (λ_=>.nilIf) (λ_ _ _ h=>h.elim) (N l-1)<|bC _;intro j a ha;have hj:=(aC.1 ha).1;have h3:=hat vs j hj λi hi=>hv i Y;grind[fQ,Gu]
 have hok:=h2;simp only[It,bAt]at hok;obtain⟨⟨⟨⟨k1,_⟩,_⟩,_⟩,k5⟩:=hok;have hN:p.n=ops.size:=nBq k1;have hat1:∀(j:Nat) (o:Oper),ops[j]?=some o→(∀e∈o.after,eC .any e=true→e.on<j)∧p.mask.getD j 0=Me p.mask o∧
  ∀(i:Nat) (oi:Oper) (d:Nat),ops[i]?=some oi→oi.dst=some d→(i=j∨o.dst≠some d)∧(d∈reads P ops o→p.msk j i=true∨p.msk i j=true):=by
  intro j o ho;have:=eB.1 k5 j<|fC.2 (dZ.1 ho).1;rw[ho]at this;simp only[T9,bAt]at this;obtain⟨⟨⟨a1,a2⟩,_⟩,a4⟩:=this;refine⟨λe he hb=>?_,nBq a2,λi oi d hi hd=>?_⟩;·have:=eB.1 a1 e (by grind);simp_all
  ·have:=eB.1 a4 i<|fC.2 (by grind);rw[hi]at this;simp only[Option.bind_some,hd,bAt,eI]at this;obtain⟨b1,b2⟩:=this;refine⟨?_,λhr=>?_⟩
   ·rcases b1 with b1|b1;·simp_all
    ·refine .inr λhod=>?_;simp_all[Zh]
   ·have:=eB.1 b2 d hr;simp_all
 have hord:Ord P ops s.n p.msk:=by
  refine⟨λj o ho=>(hat1 j o ho).1,λj o i ho hm=>?_,λi j oi oj t hi hj e1 e2=>?_,λj oj t hj ht i oi hi hti=>((hat1 j oj hj).2.2 i oi t hi hti).2 ht,λj o ho=>?_⟩;·have hm':tb (p.mask.getD j 0) i=true:=hm;rw[(hat1 j o ho).2.1]at hm';exact M9 hm'
  ·grind
  ·obtain⟨a,ha,hca⟩:=hcg j o (by grind);grind[D8]
 have hcong:∀(j:Nat) (o:Oper) (a:AOper) (e e':Env) (b:Bool),l[j]?=some a→B5 P ops o=some a→(∀t∈reads P ops o,e.get t=e'.get t)→aop G ⟨e,HB b,s.n⟩ a.op=aop G ⟨e',HB b,s.n⟩ a.op:=λj o a e e' b ha hca ht=>by grind[Ud,reads,Vh]
 have hput:∀(a:Act) (dst:Option Tmp) (v:Value),(a.put dst v).defers=a.defers:=λa dst v=>AA;intro F bs x w hs Q hq;refine wp_region_any hg.mixed ?_;have hext:=Ext.drawn bs s.H w<|w.drawn+1;refine ML (P:=P) (W0:=W0) (F:=F) (s:=s) (M:=N l-1) Y hord (λi hi=>eB.1 hlast i<|fC.2 hi) (R:=R) (HB:=HB) (ja:=ja) hja (K:=K .normal) ?_ hex ?_ ?_ (bs:=bs) (a0:=x) (w0:=w) (λs' bs' a' w' e1 e2 e3 e4=>hq .normal s' bs' a' w' e1 e2 e3 e4) ops.size _ x _ ⟨B4,λj o ho hl'=>?_,?_,?_⟩ ?_;·intro j o e e' v ho ht hv;obtain⟨a,ha,hca⟩:=hcg j o (by grind);grind[Vu]
 ·intro vs j o hj ho hv b e' bs1 a1 w1 next Q1 hb ht hrs hn
  have hj0:j<N l:=Y;have h3:=hat vs j hj0 hv;have hd:l.drop j=l[j]::l.drop (j+1):=fQ hj0;have hd1:l.drop (j+1)=l[j+1]'(Y)::l.drop (j+2):=fQ Y;rw[hd,hd1]at h3;obtain⟨q1,q2,q3,_⟩:=h3;have ha:l[j]?=some l[j]:=gGe hj0;obtain⟨o',ho',hca⟩:=hl j _ ha;rw[ho]at ho';injection ho' with ho';subst ho';obtain⟨c1,c2⟩:=Vh hca;have hRj:=λv=>hR j _ (I6 ops s.env vs j) v ha;unfold Vm at q3;have hval:∀(u:AVal) (side:List<|Int×Int) (H':Hz),Ah side→aop G ⟨e',HB b,s.n⟩ l[j].op=some (.val u H' side)→H'=HB (decide (ja=some j)||b)→R j (I6 ops s.env vs j) u→OpGo P ops o a1 w1 next Q1:=by
   intro u side H' hsd hop hH hr;subst hH;have hev:Bj P W0 G l[j] ⟨e',HB b,s.n⟩ λv' X=>v'=u∧X=HB (decide (ja=some j)||b):=by unfold Bj;rw[q1];simp only[hop];exact⟨hsd,Z,Z⟩
   have hop2:=Qo (s:=⟨e',HB b,s.n⟩) (H7 hca hev) (by grind[D8]);exact J3 hg.g hrs hop2 λs' bs' a' w' hk h4 h5 h6=>by grind
  cases hr:aop G ⟨I6 ops s.env vs j,HB false,s.n⟩ l[j].op with
  |none=>rw[hr]at q3;exact q3.elim
  |some r=>
   rw[hr]at q3;cases r with
   |skip _=>exact q3.elim
   |val u H' side=>
    have hRv:∀v,R j (I6 ops s.env vs j) v↔v=u:=λv=>by grind[Vu]
    obtain⟨hsd,⟨hjj,hH⟩|⟨hjj,hH,hop2⟩⟩:=q3;·have hbf:=hb hjj;subst hbf;refine hval u side H' hsd ?_ (by grind)<|(hRv u).2 Z;grind
    ·have hdec:(decide (ja=some j)||b)=b:=by simp[hjj]
     cases b with|false=>exact hval u side H' hsd (by grind) (by grind) ((hRv u).2 rfl)|true=>exact hval u side (HB true) hsd (by grind) (by rw[hdec])<|(hRv u).2 rfl
   |call f args=>
    have hRv:∀v,R j (I6 ops s.env vs j) v↔RC f args v:=λv=>by grind[Vu]
    obtain⟨hjj,hop2,hc,hbl,hbv,_⟩:=q3;have hdec:(decide (ja=some j)||b)=b:=by simp[hjj]
    have hop:aop G ⟨e',HB b,s.n⟩ l[j].op=some (.call f args):=by cases b<;>grind
    have hgd:D9 ops ⟨e',HB b,s.n⟩ o.guard=some true:=by rw[c2 q1];rfl
    unfold OpGo;rw[Pe hrs hgd];simp only[if_true];refine .inl ?_;have hok:=Ut (P:=P) hg.g hrs c1 hop;obtain⟨cargs,r1,r2⟩:=hok hc.1;unfold Oper.wp;rw[r1,Oper.upon_enter];refine eU (hc.at hbl hbv hrs.heap r2) λe2 w2 he2=>?_;obtain⟨v,cv,k1,rfl,k3,k4,k5⟩:=he2;have hpp:Ru (⟨e',HB b,s.n⟩:St) o.dst v (HB b) λs'=>s'=⟨Ep o.dst v e',HB b,s.n⟩:=by have hdo:=hord.dst j o ho;cases hod:o.dst with|none=>exact rfl|some d=>rw[hod]at hdo;exact⟨hdo,rfl⟩
    obtain⟨s',hK,hrs',hH⟩:=hrs.put (dst:=o.dst) k3 k4 k5 hpp;subst hK;refine hn v bs1 _ w2 ((hRv v).2 k1) ?_ ?_<|hput _ _ _;·grind
    ·grind
 ·intro vs o ho hv e' bs1 a1 w1 next Q1 he hrs hn
  have hj0:N l-1<N l:=Y;have h3:=hat vs _ hj0 hv;have hd:l.drop (N l-1)=[l[N l-1]]:=by grind[fQ]
  rw[hd]at h3;have ha:l[N l-1]?=some l[N l-1]:=gGe hj0;obtain⟨o',ho',hca⟩:=hl _ _ ha;rw[ho]at ho';injection ho' with ho';subst ho';exact J3 hg.g (hrs.env_eq he) (Nq hca h3.2) λs' bs' a' w' hk h4 h5 h6=>hn s' bs' a' w' hk h4 h5 h6
 ·have:=(dZ.1 ho).1;simp_all
 ·have:N l-1<ops.size:=by omega
  simp_all
 ·obtain⟨vs,hv,_⟩:=AR (ops:=ops) (e0:=s.env) hex (λ_=>False) (λ_=>.nilIf) (λ_ _ _ h=>h.elim) (N l-1)<|bC _;have hlb:lbOf ja (fE ops.size false)=false:=by cases hja':ja with|none=>rfl|some q=>have:=hja q hja';show(fE ops.size false).getD q true=false;simp[eJ,show q<ops.size by omega]
  refine⟨vs,s.env,bs,hv,?_,?_,Z,λt=>.inr ⟨λi o ho _ hl'=>?_,Z⟩⟩;·rw[hlb,hb0];refine⟨⟨hs.heap.len,hs.heap.base.trans ?_,hs.heap.low,hs.heap.nodup,hs.heap.forb,λi o b h1 h2=>(hs.heap.obj i o b h1 h2).ext hext Z⟩,hs.size,λt v hv=>(hs.env t v hv).ext hext⟩;exact⟨Z,Z,Z,bC _,λ_ _=>Z⟩
  ·grind
  ·have:=(dZ.1 ho).1;simp_all
 grind[unl]
end
section
variable {P : Program} {W0 : World} {G : List (Nat × AVal)} {RC : FuncId → List AVal → AVal → Prop} {HB : Bool → Hz} {ja : Option Nat} {n j d : Nat} {l : List (Nat × AVal)} {op : AOp} {r0 : AOper} {r : List AOper} {K : St → Prop}
theorem rV {v:AVal}{side:List (Int×Int)}(h:aop G ⟨.al l,HB false,n⟩ op=some (.val v (HB false) side))(k:Gu P W0 G RC HB ja n (r0::r) (j+1) (.al ((d,v)::l)) K)(h':aop G ⟨.al l,HB true,n⟩ op=some (.val v (HB true) side):=by with_unfolding_all exact rfl)(hj:ja≠some j:=by decide)(hd:(Nat.blt d n&&Nat.blt d 4094)=true:=by with_unfolding_all rfl)(hs:Ah side:=by first|with_unfolding_all exact trivial|with_unfolding_all decide|(with_unfolding_all simp only[Ah,and_true];omega)):Gu P W0 G RC HB ja n (⟨some d,none,op⟩::r0::r) j (.al l) K:=by
 refine⟨rfl,hd,?_,λu hu=>?_⟩;·grind[Vm]
 ·unfold Vu at hu;simp only[h]at hu;subst hu;exact k
theorem rK {v v0:AVal}{side:List (Int×Int)}(h:aop G ⟨.al l,HB false,n⟩ op=some (.val v0 (HB false) side))(hv:v0=v)(k:Gu P W0 G RC HB ja n (r0::r) (j+1) (.al ((d,v)::l)) K)(h':aop G ⟨.al l,HB true,n⟩ op=some (.val v0 (HB true) side):=by with_unfolding_all exact rfl)(hj:ja≠some j:=by decide)(hd:(Nat.blt d n&&Nat.blt d 4094)=true:=by with_unfolding_all rfl)(hs:Ah side:=by first|with_unfolding_all exact trivial|with_unfolding_all decide|(with_unfolding_all simp only[Ah,and_true];omega)):Gu P W0 G RC HB ja n (⟨some d,none,op⟩::r0::r) j (.al l) K:=by grind[rV]
theorem rA {v:AVal}{side:List (Int×Int)}(h:aop G ⟨.al l,HB false,n⟩ op=some (.val v (HB true) side))(k:Gu P W0 G RC HB ja n (r0::r) (j+1) (.al ((d,v)::l)) K)(hj:ja=some j:=by rfl)(hd:(Nat.blt d n&&Nat.blt d 4094)=true:=by with_unfolding_all rfl)(hs:Ah side:=by with_unfolding_all exact trivial):Gu P W0 G RC HB ja n (⟨some d,none,op⟩::r0::r) j (.al l) K:=by
 refine⟨rfl,hd,?_,λu hu=>?_⟩;·grind[Vm]
 ·unfold Vu at hu;simp only[h]at hu;subst hu;exact k
theorem rC {f:Nat}{args:List AVal}(h:aop G ⟨.al l,HB false,n⟩ op=some (.call f args))(hc:Aw P W0 f args<|RC f args)(hb:A8 0 args=true)(hv:∀v,RC f args v→blw 0 v=true)(hx:∃v,RC f args v)(k:∀v,RC f args v→Gu P W0 G RC HB ja n (r0::r) (j+1) (.al ((d,v)::l)) K)(h':aop G ⟨.al l,HB true,n⟩ op=some (.call f args):=by with_unfolding_all exact rfl)(hj:ja≠some j:=by decide)(hd:(Nat.blt d n&&Nat.blt d 4094)=true:=by with_unfolding_all rfl):Gu P W0 G RC HB ja n (⟨some d,none,op⟩::r0::r) j (.al l) K:=by
 refine⟨rfl,hd,?_,λu hu=>?_⟩;·grind[Vm]
 ·unfold Vu at hu;simp only[h]at hu;exact k u hu
theorem rD {f:Nat}{args:List AVal}{v:AVal}(h:aop G ⟨.al l,HB false,n⟩ op=some (.call f args))(hc:A5 P W0 f args [] v [])(hR:∀u,RC f args u↔u=v)(k:Gu P W0 G RC HB ja n (r0::r) (j+1) (.al ((d,v)::l)) K)(hb:A8 0 args=true:=by rfl)(hv:blw 0 v=true:=by rfl)(h':aop G ⟨.al l,HB true,n⟩ op=some (.call f args):=by with_unfolding_all exact rfl)(hj:ja≠some j:=by decide)(hd:(Nat.blt d n&&Nat.blt d 4094)=true:=by with_unfolding_all rfl):Gu P W0 G RC HB ja n (⟨some d,none,op⟩::r0::r) j (.al l) K:=rC h ((Aw.of hc).mono λu hu=>(hR u).2 hu) hb (λu hu=>by grind) ⟨v,(hR v).2 rfl⟩ (λu hu=>by grind) h' hj hd
theorem rL {H':Hz}(h:aop G ⟨.al l,HB ja.isSome,n⟩ op=some (.skip H'))(k:K ⟨.al l,H',n⟩):Gu P W0 G RC HB ja n [⟨none,none,op⟩] j (.al l) K:=by refine⟨rfl,?_⟩;simp only[Hj,h];exact k
end
end Go.Abs
