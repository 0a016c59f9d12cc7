/- A part of the proof that tabula/tabulalaw25.PackBack returns true for every input, each argument reading as it did (its card: the last text). No conditions of its own. -/
import Derived.Test.YtlfcfgbbhlgocaaGreatDoorTJ
set_option linter.unusedVariables false
set_option linter.unusedSimpArgs false
set_option maxHeartbeats 4000000
open List renaming length->N
open Go.Abs.AVal renaming int->J,str->S,bool->I,ptr->aP,row->aR,tup->aU,agg->aG,hsl->aH,nilSl->aN,eptr->aE
open Go.Abs.HObj renaming cells->C
open Go.IntKind renaming i64->U,i8->z8
open BitVec renaming ofInt->cI,ofInt_natCast->nD,toNat_ofNat->nI
open Bool renaming and_self->kC
open Go.Abs.A5 renaming pure->hO
open Go.Abs.ExM renaming draw1->nA,lpH->lZ
open Go.Abs.ExP renaming seqR->mL,seqL->mU,ops->nC,block->nH
open Go.Abs.SP renaming mayB->jR
open Go.DataW renaming weights_mem_each->lG
open Go.Lib renaming compactUpTo->gI
open Go.Proofs.Tryz renaming prog->gH,params3->mZ,f3->nK,func8->nL
open List renaming getD_eq_getElem?_getD->eZ,append_assoc->cE,take_succ_eq_append_getElem->lK,length_map->jY,getElem?_eq_some_iff->aC,append_nil->lP,mem_flatMap->mO,mem_append->eG,flatMap_cons->lA,take_length->lL,getElem?_append_right->mP,getElem?_cons_succ->eT,append_cancel_left->mQ,ext_getElem?->mR,take_of_length_le->bU,map_cons->jZ,getElem?_eq_none->mW,foldl_cons->mX,mem_cons->eS,getElem?_map->mY,drop_eq_getElem_cons->fQ,append_inj->nB,mem_cons_of_mem->fF,getElem?_of_mem->eX,getElem?_range->nE,map_congr_left->nF,mem_map->nJ,mem_cons_self->gX,length_take->lW,not_mem_nil->eY,all_eq_true->eB,range->eD
open Nat renaming beq->aA,lt_of_le_of_lt->mM,mod_eq_of_lt->mN,zero_le->hZ,le_refl->bC,zero_add->bS,beq_refl->fY,le_trans->bI,zero_mul->cJ,mul_comm->fO,add_mul->bE,blt->bB,ble->bK
open Option renaming getD_some->mJ,map_some->bQ
open UInt8 renaming toNat_ofNat'->nG
namespace Go.Abs
open Go.Proofs Go.RowKit
set_option maxRecDepth 100000
variable {W0 : World}
def cc122 (H:Hz):List AVal→Option (AVal×Hz)
 | [aP id 0]=>match H[id]? with
  |some (C T (.nilPtr::r) false)=>cond (aA T 109&&aA (N r) 2) (some (aU [],H.set id<|C T (aP id 0::r) false)) none|some (C _ (aP id' 0::_) false)=>cond (aA id' id) (some (aU [],H)) none|_=>none
 |_=>none
def RT :List AVal→Option Bz
 | []=>some []
 |J .u8 (.ofNat n)::r=>cond (bB n 256) (match RT r with
  |some l=>some (UInt8.ofNat n::l)|none=>none) none
 |_=>none
theorem JV :∀{cs:List AVal}{l:Bz},RT cs=some l→cs=u8c l
 | [],l,h=>by simp only[RT,iS]at h;subst h;rfl
 |J k n::r,l,h=>by
  unfold RT at h;split at h;·grind
  ·rename_i n' r' heq;injection heq with h1 h2;injection h1 with h3 h4;subst h2;subst h3;subst h4;cases hn:bB n' 256 with
   |false=>rw[hn]at h;cases h
   |true=>
    rw[hn,cond_true]at h;split at h;·rename_i l' hl';injection h with h;subst h;rw[JV hl'];grind[Nat.blt_eq,u8c,nG]
    ·cases h
  ·cases h
 |I _::_,_,h|S _::_,_,h|aG _::_,_,h|aU _::_,_,h|aN::_,_,h|.emp::_,_,h|aR _ _::_,_,h|aH _ _ _ _ _::_,_,h|.nilPtr::_,_,h|aP _ _::_,_,h|.optr _ _ _::_,_,h|aE _ _::_,_,h|.fn _ _ _::_,_,h|.nilFn::_,_,h|.iface _ _::_,_,h|.nilIf::_,_,h|.mref _::_,_,h|.nilMp::_,_,h=>Hq
def str68 (H:Hz):List AVal→Option (AVal×Hz)
 | [aP id 0]=>match H[id]? with
  |some (C _ (_::aH 1 jd 0 n _::_) false)=>match H[jd]? with
   |some (C TB cs true)=>match RT cs with
    |some l=>cond (aA (DJ TB) 5&&(aA n (N l)&&bK 1 n)) (some (S l,H.set jd<|C (tgT TB) cs true)) none|none=>none
   |_=>none
  |_=>none
 |_=>none
def TA (H:Hz):List AVal→Option (AVal×Hz)
 | [aH 1 id 0 1 _]=>match H[id]? with
  |some (C _ [S _] false)=>some (aU [],H)|_=>none
 |_=>none
def PU (H:Hz):List AVal→Option (AVal×Hz)
 | [aH 1 id 0 1 _]=>match H[id]? with
  |some (C _ [S _] false)=>some (aH 1 id 0 1 none,H)|_=>none
 |_=>none
def tabW :CallF:=λf args H=>cond (aA f 87) (cc122 H args)<|cond (aA f 56) (str68 H args)<|cond (aA f 85) (TA H args)<|cond (aA f 86) (PU H args) none
theorem FO {H:Hz}{id:Nat}{o:HObj}(h:H[id]?=some o):H.set id o=H:=by grind[List.set_getElem_self]
theorem tabW_ok (_hk:Kn W0):En gH W0 tabW:=λf args H v H' h=>by
 unfold tabW at h;cases h1:aA f 87 with
 |true=>
  have:=nBq h1;subst this;rw[h1,cond_true]at h;unfold cc122 at h;split at h
  ·rename_i id;split at h
   ·rename_i T r ho;cases hc:(aA T 109&&aA (N r) 2)with
    |false=>rw[hc]at h;cases h
    |true=>rw[hc,cond_true]at h;injection h with h;injection h with e1 e2;subst e1;subst e2;simp only[bAt]at hc;have e3:=nBq hc.1;have e4:=nBq hc.2;subst e3;exact ccPT ho (by rw[e4];kernel_rfl) Ar
   ·rename_i T id' r ho;cases hc:aA id' id with
    |false=>rw[hc]at h;cases h
    |true=>rw[hc,cond_true]at h;injection h with h;injection h with e1 e2;subst e1;subst e2;have e3:=nBq hc;subst e3;exact PZ ho
   ·cases h
  ·cases h
 |false=>
  rw[h1,cond_false]at h;cases h2:aA f 56 with
  |true=>
   have:=nBq h2;subst this;rw[h2,cond_true]at h;unfold str68 at h;split at h
   ·rename_i id;split at h
    ·rename_i T c0 jd n cp r ho;split at h
     ·rename_i TB cs hj;split at h
      ·rename_i l hl;have hcs:=JV hl;subst hcs;cases hc:(aA (DJ TB) 5&&(aA n (N l)&&bK 1 n))with
       |false=>rw[hc]at h;cases h
       |true=>rw[hc,cond_true]at h;injection h with h;injection h with e1 e2;subst e1;subst e2;simp only[bAt]at hc;have e3:=nBq hc.2.1;have e4:=Nat.le_of_ble_eq_true hc.2.2;exact strU ho hj e3 (λe=>by grind)<|nBq hc.1
      ·cases h
     ·cases h
    ·cases h
   ·cases h
  |false=>
   rw[h2,cond_false]at h;cases h3:aA f 85 with
   |true=>
    have:=nBq h3;subst this;rw[h3,cond_true]at h;unfold TA at h;split at h
    ·rename_i id cp;split at h;·rename_i T x ho;injection h with h;injection h with e1 e2;subst e1;subst e2;have q:=lSort (W0:=W0) (cp:=cp) (ss:=[x]) (n:=1) ho Z (show 1<1000000 by decide);grind[List.mergeSort,Ce,FO]
     ·cases h
    ·cases h
   |false=>
    rw[h3,cond_false]at h;cases h4:aA f 86 with
    |false=>rw[h4]at h;cases h
    |true=>
     have:=nBq h4;subst this;rw[h4,cond_true]at h;unfold PU at h;split at h
     ·rename_i id cp;split at h;·rename_i T x ho;injection h with h;injection h with e1 e2;subst e1;subst e2;have e:gI #[x] 1=[x]:=Jm;have q:=FV (W0:=W0) (cp:=cp) (ss:=[x]) (n:=1) ho Z (show 1<1000000 by decide) (by grind);have e0:gI ([x]:List Bz).toArray (N ([x]:List Bz))=[x]:=Jm;simp_all[Ce,FO]
      ·cases h
     ·cases h
def idleA (g:Nat):Option Nat:=cond (aA g 20) (some 3)<|cond (aA g 59) (some 2) none
def tabP (l:List Ent):CallF:=λf args H=>match tabW f args H with
 |some r=>some r|none=>AE l f args H
theorem tabP_ok (hk:Kn W0){l:List Ent}(hl:∀e∈l,Dh gH W0 e):En gH W0 (tabP l):=λf args H v H' h=>by
 unfold tabP at h;split at h;·rename_i r hr;injection h with h;subst h;exact tabW_ok hk _ _ _ _ _ hr
 ·exact Xj hl _ _ _ _ _ h
noncomputable def Qv (l:List Ent)(d:Nat):CallF:=J1 gH GL Hr idleA (tabP l) (λcall ops s=>Zw gH GL call ops s) 1000 d
theorem Jg (hk:Kn W0){l:List Ent}(hl:∀e∈l,Dh gH W0 e)(d:Nat):En gH W0 (Qv l d):=by
 refine Rn hk.g (λg m h=>?_) (tabP_ok hk hl) (λcall hc=>HQ Ar hk.g hc) 1000 d;unfold idleA at h;cases h1:aA g 20 with
 |true=>rw[h1,cond_true]at h;injection h with h;subst h;have:=nBq h1;subst this;exact⟨TK,F2 Ar⟩
 |false=>
  rw[h1,cond_false]at h;cases h2:aA g 59 with
  |false=>rw[h2]at h;cases h
  |true=>rw[h2,cond_true]at h;injection h with h;subst h;have:=nBq h2;subst this;exact⟨OV,F2 Ar⟩
theorem SV (hk:Kn W0){l:List Ent}(hl:∀e∈l,Dh gH W0 e){d f:Nat}{args:List AVal}{v:AVal}(h:Qv l d f args []=some (v,[]))(h1:A8 0 args=true)(h2:blw 0 v=true):Dh gH W0 ⟨f,args,v⟩:=⟨h1,h2,Jg hk hl d _ _ _ _ _ h⟩
end Go.Abs
namespace Go.Abs
open Go.Proofs Go.RowKit
set_option maxRecDepth 10000000
variable {W0 : World}
def R1 :Bz:=[84,66,76,49,1,0,0,0,5,0,1,0,1,83,16,23,24,121,2,0,0,0,5,1,0,0,0,0,19,26,24,42,3,0,0,0,1,0,0,0,1,2,4,0,0,0,1,0,0,0,1,2,5,0,0,0,1,0,0,0,1,2]
def bkA :AVal:=aG [aR 2 [aG [S [83],aN]],aN,aN,aN]
def bkB :AVal:=aG [aR 2 [aG [S [83],aR 3 []]],aR 3 [],aN,aN]
def bkZ :AVal:=aG Vr
def awe0 :Ent:=⟨7,[bkA],aU [S R1,J U 0]⟩
theorem awr0 :Qv [] 60 7 [bkA] []=some (aU [S R1,J U 0],[]):=Ar
theorem awk0 (hk:Kn W0):Dh gH W0 awe0:=SV hk Dw awr0 Ar Ar
def awe1 :Ent:=⟨7,[bkB],aU [S R1,J U 0]⟩
theorem awr1 :Qv [] 60 7 [bkB] []=some (aU [S R1,J U 0],[]):=Ar
theorem awk1 (hk:Kn W0):Dh gH W0 awe1:=SV hk Dw awr1 Ar Ar
def awe2 :Ent:=⟨8,[S R1],aU [bkB,J U 0,J U 0]⟩
theorem awr2 :Qv [awe1] 60 8 [S R1] []=some (aU [bkB,J U 0,J U 0],[]):=Ar
theorem awk2 (hk:Kn W0):Dh gH W0 awe2:=SV hk (L5 (awk1 hk) Dw) awr2 Ar Ar
def awe3 :Ent:=⟨7,[bkZ],aU [S [],J U 96]⟩
theorem awr3 :Qv [] 60 7 [bkZ] []=some (aU [S [],J U 96],[]):=Ar
theorem awk3 (hk:Kn W0):Dh gH W0 awe3:=SV hk Dw awr3 Ar Ar
def awe4 :Ent:=⟨11,[bkA,bkB],I true⟩
theorem awr4 :Qv [] 60 11 [bkA,bkB] []=some (I true,[]):=Ar
theorem awk4 (hk:Kn W0):Dh gH W0 awe4:=SV hk Dw awr4 Ar Ar
end Go.Abs
namespace Go.Abs
open Go.Proofs Go.RowKit
set_option maxRecDepth 100000
variable {W0 : World} {G : List (Nat × AVal)}
def hD (s:Bz)(n:Nat):Hz:=[C 31 Vr false,C 3 [J U 0] false,C 33 [J U 0] false,C 75 [S s,J U n,aN] false]
def pv (n e:Nat):AVal:=.iface 71<|aG [J U n,J U e]
theorem wr_1 (hk:Kn W0):cP W0 57 [aP 3 0,J U 1] ((hD [84,66,76,88] 0)) (S [84]) (hD [84,66,76,88] 1):=Jg hk Dw 60 _ _ _ _ _ (show Qv [] 60 57 [aP 3 0,J U 1] ((hD [84,66,76,88] 0))=some (S [84],hD [84,66,76,88] 1)by kernel_rfl)
theorem wr_2 (hk:Kn W0):cP W0 57 [aP 3 0,J U 1] ((hD [84,66,76,88] 1)) (S [66]) (hD [84,66,76,88] 2):=Jg hk Dw 60 _ _ _ _ _ (show Qv [] 60 57 [aP 3 0,J U 1] ((hD [84,66,76,88] 1))=some (S [66],hD [84,66,76,88] 2)by kernel_rfl)
theorem wr_3 (hk:Kn W0):cP W0 57 [aP 3 0,J U 1] ((hD [84,66,76,88] 2)) (S [76]) (hD [84,66,76,88] 3):=Jg hk Dw 60 _ _ _ _ _ (show Qv [] 60 57 [aP 3 0,J U 1] ((hD [84,66,76,88] 2))=some (S [76],hD [84,66,76,88] 3)by kernel_rfl)
theorem wr_4 (hk:Kn W0):cP W0 57 [aP 3 0,J U 1] ((hD [84,66,76,88] 3)) (S [88]) (hD [84,66,76,88] 4):=Jg hk Dw 60 _ _ _ _ _ (show Qv [] 60 57 [aP 3 0,J U 1] ((hD [84,66,76,88] 3))=some (S [88],hD [84,66,76,88] 4)by kernel_rfl)
theorem p24 (hk:Kn W0)(hg:hGr W0 G):J5 gH W0 21 [aP 3 0,S [84,66,76,49]] (hD [84,66,76,88] 0) (pv 3 250) (hD [84,66,76,88] 4):=by refine goP 21 26 ?_;refine mL ?_;refine oM<|x3 Z Z Z ?_;refine⟨Z,?_⟩;refine nH ?_;refine ExP.loop 4 ?_;refine .inr ?_;refine sO<|mBk hg gN (c:=true) Z Z Z<|mn<|sq<|cT Z<|kM<|sq<|bM<|sO<|x2 Z Z<|sq ?_;refine nA hg 1 Z ?_;refine J0 Z Z O<|PO Z Z Z (wr_1 hk)<|J0 Z Z O<|J0 Z Z O<|J0 Z Z O<|wKv (v:=J U 1) Z Z (by simp_all[Ah]) Z<|J0 (v:=S [84]) Z Z (by grind[Bl,Ah])<|wBk (c:=false) Z Z Z<|SF<|?_;refine cF Z<|kM<|oM<|mKs (v:=J U 1) Z Z<|x1 Z ?_;refine⟨Z,?_⟩;refine .inr ?_;refine sO<|mBk hg gN (c:=true) Z Z Z<|mn<|sq<|cT Z<|kM<|sq<|bM<|sO<|x2 Z Z<|sq ?_;refine nA hg 1 Z ?_;refine J0 Z Z O<|PO Z Z Z (wr_2 hk)<|J0 Z Z O<|J0 Z Z O<|J0 Z Z O<|wKv (v:=J U 2) Z Z (by simp_all[Ah]) Z<|J0 (v:=S [66]) Z Z (by grind[Bl,Ah])<|wBk (c:=false) Z Z Z<|SF<|?_;refine cF Z<|kM<|oM<|mKs (v:=J U 2) Z Z<|x1 Z ?_;refine⟨Z,?_⟩;refine .inr ?_;refine sO<|mBk hg gN (c:=true) Z Z Z<|mn<|sq<|cT Z<|kM<|sq<|bM<|sO<|x2 Z Z<|sq ?_;refine nA hg 1 Z ?_;refine J0 Z Z O<|PO Z Z Z (wr_3 hk)<|J0 Z Z O<|J0 Z Z O<|J0 Z Z O<|wKv (v:=J U 3) Z Z (by simp_all[Ah]) Z<|J0 (v:=S [76]) Z Z (by grind[Bl,Ah])<|wBk (c:=false) Z Z Z<|SF<|?_;refine cF Z<|kM<|oM<|mKs (v:=J U 3) Z Z<|x1 Z ?_;refine⟨Z,?_⟩;refine .inl ?_;refine mL ?_;refine oM<|mBk hg gN (c:=true) Z Z Z<|mn ?_;refine⟨Z,?_⟩;refine mL ?_;refine cT Z<|kM ?_;refine⟨Z,?_⟩;refine mU ?_;refine nH ?_;refine mL ?_;refine oM<|x2 Z Z ?_;refine⟨Z,?_⟩;refine mL ?_;refine nA hg 1 Z ?_;refine J0 Z Z O<|PO Z Z Z (wr_4 hk)<|J0 Z Z O<|J0 Z Z O<|J0 Z Z O<|wKv (v:=J U 4) Z Z (by simp_all[Ah]) Z<|J0 (v:=S [49]) Z Z (by grind[Bl,Ah])<|wBk (c:=true) Z Z Z<|SF<|?_;refine⟨Z,?_⟩;refine ExP.condT hg Z ?_;refine nC hg ?_;refine K9 hg gN Z Z O<|K9 hg gN Z Z O<|K9 hg gN Z Z O<|K9 hg gN Z Z O<|K9 hg gN Z Z O<|K9 hg gN Z Z O<|K9 hg gN Z Z O<|pPan hg Z Z
theorem p69 (hg:hGr W0 G):J5 gH W0 57 [aP 3 0,J U 4] (hD [84,66,76,49,1] 5) (pv 5 252) (hD [84,66,76,49,1] 5):=by refine goP 57 47 ?_;refine mL ?_;refine oM<|x1 Z ?_;refine⟨Z,?_⟩;refine mU ?_;refine mL ?_;refine ExM.draw hg ?_;refine qV Z<|qV Z<|qV Z<|qV Z<|qV Z<|qV Z<|qV Z<|qV Z<|qV Z<|qV Z<|qV Z<|qBk (c:=true) Z Z Z ?_;refine Dx<|?_;refine⟨Z,?_⟩;refine ExP.condT hg Z ?_;refine nC hg ?_;refine K9 hg gN Z Z O<|K9 hg gN Z Z O<|K9 hg gN Z Z O<|K9 hg gN Z Z O<|K9 hg gN Z Z O<|K9 hg gN Z Z O<|K9 hg gN Z Z O<|pPan hg Z Z
theorem p70 (hg:hGr W0 G):J5 gH W0 58 [aP 3 0,J U 4] (hD [84,66,76,49,1] 5) (pv 5 252) (hD [84,66,76,49,1] 5):=by refine goP 58 23 ?_;refine mL ?_;refine oM<|x1 Z ?_;refine⟨Z,?_⟩;refine mU ?_;refine mU ?_;refine nC hg ?_;refine K9 hg gN Z Z O<|K9 hg gN Z Z O<|LT hg Z (p69 hg) Z
theorem wr_5 (hk:Kn W0):cP W0 21 [aP 3 0,S [1]] ((hD [84,66,76,49,1] 4)) (aU []) (hD [84,66,76,49,1] 5):=Jg hk Dw 60 _ _ _ _ _ (show Qv [] 60 21 [aP 3 0,S [1]] ((hD [84,66,76,49,1] 4))=some (aU [],hD [84,66,76,49,1] 5)by kernel_rfl)
theorem p25 (hk:Kn W0)(hg:hGr W0 G):J5 gH W0 22 [aP 3 0,J U 1] (hD [84,66,76,49,1] 4) (pv 5 252) (hD [84,66,76,49,1] 5):=by refine goP 22 29 ?_;refine mL ?_;refine oM<|x1 Z ?_;refine⟨Z,?_⟩;refine mL ?_;refine oM<|m4 Z Z Z Z<|mC Z (wr_5 hk)<|mn ?_;refine⟨Z,?_⟩;refine mU ?_;refine nC hg ?_;refine K9 hg gN Z Z O<|K9 hg gN Z Z O<|LT hg Z (p70 hg) Z
def wr23 :ACode:=(sQ [⟨(some 7),none,(.move 3)⟩,⟨(some 8),none,(.bin .neq (some<|.interface #[]) 7<|.val<|.nilIf)⟩]<|.cond 8 (sQ [⟨(some 10),none,(.move 3)⟩,⟨(some 11),none,(.tas 71 10)⟩,⟨(some 9),none,(.move 11)⟩,⟨(some 12),none,(.extract 9 0)⟩,⟨(some 13),none,(.extract 9 1)⟩,⟨(some 4),none,(.alloc 71 [(J U 0),(J U 0)])⟩,yN<|(.store 2 4 12),⟨(some 5),none,(.move 13)⟩]<|.seq (sQ [⟨(some 14),none,(.move 5)⟩,⟨(some 15),none,(.un .not 14)⟩]<|.cond 15 (.ops [⟨(some 16),none,(.move 3)⟩,yN<|(.pan 16)]) .skip)<|.drawC [⟨(some 17),none,(.build Vr [])⟩,⟨(some 18),none,(.fieldAddr 0 4)⟩,⟨(some 19),none,(.load 1 false 18)⟩,⟨(some 20),none,(.fieldAddr 1 4)⟩,⟨(some 21),none,(.load 1 false 20)⟩,yN<|(.store 4 0 17),yN<|(.store 1 1 19),yN<|(.store 1 2 21)] ⟨8,[0,1,1,1,1,2,2,2],[0,0,2,0,8,1,39,127],[0,32,96,224]⟩) .skip)
theorem rec23 (hg:hGr W0 G){s:Bz}{n a e:Nat}:FB gH W0 20 [aP 0 0,aP 1 0,aP 2 0] (pv a e) (hD s n) [C 31 Vr false,C 3 [J U a] false,C 33 [J U e] false,C 75 [S s,J U n,aN] false,C 71 [J U a,J U e] false]:=by refine FB.of2 (ar:=wr23) (t:=6) (t2:=3) (n:=22) Tryz.func20 Z Z Z Z Z (λ_ _=>Z) (λ_ _=>Z) Ar Z B4 Z Z Z ?_;refine sO<|mV Z<|mBk hg gN (c:=true) Z Z Z<|mn<|cT Z<|sO<|m2 Z Z<|m4 Z Z Z Z<|Ai hg gN Z<|x1 Z<|sq<|sO<|mV Z<|mBk hg gN (c:=false) Z Z Z<|mn<|cF Z<|kM ?_;refine ExM.drawC hg ?_;refine Ha Z Z O Ar<|Ha Z Z O Ar<|Ha Z Z O Ar<|Ha Z Z O Ar<|Ha Z Z O Ar<|Wp Z Z (pdC (cY (by show jR _ 32 4=true;rfl)<|evY Z O)<|pdC (cY (by show jR _ 32 3=true;rfl)<|evY Z O)<|pdC (cY (by show jR _ 32 2=true;rfl)<|evY Z O)<|pdC (cY bY186<|evY Z O) pdN)<|?_;refine Wp Z Z (pdC (cY (by show jR _ 96 4=true;rfl)<|evY Z O)<|pdC (cY (by show jR _ 96 3=true;rfl)<|evY Z O)<|pdC (cN (by show jR _ 96 2=false;rfl))<|pdC (cN (by show jR _ 96 1=false;rfl)) pdN)<|Wp Z Z (pdC (cN (by show jR _ 224 4=false;rfl))<|pdC (cN (by show jR _ 224 3=false;rfl))<|pdC (cN (by show jR _ 224 2=false;rfl))<|pdC (cN (by show jR _ 224 1=false;rfl)) pdN)<|MK Z<|?_;exact⟨O,Z⟩
def wa0 :ACode:=(.ops [⟨(some 2),none,(.alloc 31 Vr)⟩,⟨(some 3),none,(.alloc 3 [(J U 0)])⟩,⟨(some 4),none,(.alloc 33 [(J U 0)])⟩])
def wa1 :ACode:=(sQ [⟨(some 12),none,(.move 0)⟩,⟨(some 13),none,(.len true 12)⟩,⟨(some 14),none,(.bin .gtr none 13<|vI 200000)⟩]<|.cond 14 (sQ [⟨(some 15),none,(.build Vr [])⟩,yN<|(.store 4 2 15),yN<|(.store 1 3<|vI 0),yN<|(.store 1 4<|vI 250)] .ret) .skip)
def war :ACode:=(sQ [⟨(some 17),none,(.move 0)⟩,⟨(some 18),none,(.build [(S []),(J U 0),aN] [(0,1,17)])⟩,⟨(some 19),none,(.box 75 18)⟩,⟨(some 5),none,(.move 19)⟩]<|sQ [⟨(some 20),none,(.move 5)⟩,⟨(some 21),none,(kF 21 [20,(.val<|S [84,66,76,49])])⟩]<|sQ [⟨(some 6),none,(.move<|.val<|aN)⟩]<|.seq (sQ [⟨(some 22),none,(.move<|vI 0)⟩]<|.block 0<|.loop<|sQ [⟨(some 23),none,(.bin .lss none 22<|vI 5)⟩]<|.seq (.cond 23 .skip<|.exit 0)<|.seq (.block 1<|sQ [⟨(some 24),none,(.move 22)⟩,⟨(some 7),none,(.move 24)⟩]<|.ops [⟨(some 25),none,(.move 6)⟩,⟨(some 26),none,(.move 5)⟩,⟨(some 27),none,(.move 7)⟩,⟨(some 28),none,(.bin .add none 27<|vI 1)⟩,⟨(some 29),none,(kF 22 [26,28])⟩,⟨(some 30),none,(.bslice 9 1 1 [(S [])] [(0,1,29)])⟩,⟨(some 31),none,(.append 9 1 16 25 30)⟩,⟨(some 6),none,(.move 31)⟩])<|.ops [⟨(some 32),none,(.bin .add none 22<|vI 1)⟩,⟨(some 22),none,(.move 32)⟩])<|.seq (sQ [⟨(some 33),none,(.move 5)⟩,⟨(some 34),none,(.nilCheck 33)⟩,⟨(some 35),none,(.fieldAddr 1 34)⟩,⟨(some 36),none,(.load 1 false 35)⟩,⟨(some 37),none,(.move 0)⟩,⟨(some 38),none,(.len true 37)⟩,⟨(some 39),none,(.bin .lss none 36 38)⟩]<|.cond 39 (.seq (.drawC [⟨(some 40),none,(.build Vr [])⟩,⟨(some 41),none,(.move 5)⟩,⟨(some 42),none,(.nilCheck 41)⟩,⟨(some 43),none,(.fieldAddr 1 42)⟩,⟨(some 44),none,(.load 1 false 43)⟩,yN<|(.store 4 2 40),yN<|(.store 1 3 44),yN<|(.store 1 4<|vI 250)] ⟨8,[0,0,1,1,1,2,2,2],[0,0,2,6,14,1,63,127],[0,32,96,224]⟩) .ret) .skip)<|sQ [⟨(some 46),none,(.move 6)⟩,⟨(some 47),none,(kF 23 [46])⟩,⟨(some 45),none,(.move 47)⟩,⟨(some 48),none,(.extract 45 0)⟩,⟨(some 49),none,(.extract 45 1)⟩,⟨(some 8),none,(.alloc 31 Vr)⟩,yN<|(.store 4 8 48),⟨(some 9),none,(.move 49)⟩]<|.seq (sQ [⟨(some 51),none,(.load 4 true 8)⟩,⟨(some 52),none,(kF 7 [51])⟩,⟨(some 50),none,(.move 52)⟩,⟨(some 53),none,(.extract 50 0)⟩,⟨(some 54),none,(.extract 50 1)⟩,⟨(some 10),none,(.move 53)⟩,⟨(some 11),none,(.move 54)⟩]<|sQ [⟨(some 55),none,(.move 9)⟩,⟨(some 56),none,(.un .not 55)⟩,⟨(some 57),none,(.move 56)⟩,⟨(some 58),(some (57,false)),(.move 11)⟩,⟨(some 59),(some (57,false)),(.bin .neq none 58<|vI 0)⟩,⟨(some 60),none,(.pick 57 (.val<|I true) 59)⟩,⟨(some 61),none,(.move 60)⟩,⟨(some 62),(some (61,false)),(.move 10)⟩,⟨(some 63),(some (61,false)),(.move 0)⟩,⟨(some 64),(some (61,false)),(.bin .neq none 62 63)⟩,⟨(some 65),none,(.pick 61 (.val<|I true) 64)⟩]<|.cond 65 (sQ [⟨(some 66),none,(.build Vr [])⟩,yN<|(.store 4 2 66),yN<|(.store 1 3<|vI 0),yN<|(.store 1 4<|vI 250)] .ret) .skip)<|sQ [⟨(some 67),none,(.load 4 true 8)⟩,yN<|(.store 4 2 67),yN<|(.store 1 3<|vI 0),yN<|(.store 1 4<|vI 0)] .ret)
theorem decX (hk:Kn W0)(hg:hGr W0 G):cP W0 8 [S [84,66,76,88]] [] (aU [bkZ,J U 3,J U 250]) []:=by refine A5.of_rec2 hg (v:=pv 3 250) (a0:=wa0) (a1:=wa1) (ar:=war) (ao:=⟨some 16,none,.mkfn 20 [] [.tmp 2,.tmp 3,.tmp 4]⟩) (t:=16) (g:=20) (n:=68) nL Z (by simp[Tryz.f8]) (F2 Ar) Ar Ar Ar Ar Z Z Z ⟨_,Z,Z,Z⟩ B4 Z Z ?_;refine oM<|x3 Z Z Z ?_;refine⟨Z,?_⟩;refine sO<|m2 Z Z<|mBk hg gN (c:=false) Z Z Z<|mn<|cF Z<|kM ?_;refine⟨Z,?_⟩;refine⟨O,Z,⟨_,Z,?_⟩⟩;refine mL ?_;refine oM<|x4 Z Z Z Z ?_;refine⟨Z,?_⟩;refine mU ?_;refine nC hg ?_;refine K9 hg gN Z Z O<|LT hg Z (p24 hk hg) ⟨_,rec23 hg,_,Z,Z⟩
theorem wr_6 (hk:Kn W0):cP W0 21 [aP 3 0,S [84,66,76,49]] ((hD [84,66,76,49,1] 0)) (aU []) (hD [84,66,76,49,1] 4):=Jg hk Dw 60 _ _ _ _ _ (show Qv [] 60 21 [aP 3 0,S [84,66,76,49]] ((hD [84,66,76,49,1] 0))=some (aU [],hD [84,66,76,49,1] 4)by kernel_rfl)
theorem decY (hk:Kn W0)(hg:hGr W0 G):cP W0 8 [S [84,66,76,49,1]] [] (aU [bkZ,J U 5,J U 252]) []:=by refine A5.of_rec2 hg (v:=pv 5 252) (a0:=wa0) (a1:=wa1) (ar:=war) (ao:=⟨some 16,none,.mkfn 20 [] [.tmp 2,.tmp 3,.tmp 4]⟩) (t:=16) (g:=20) (n:=68) nL Z (by simp[Tryz.f8]) (F2 Ar) Ar Ar Ar Ar Z Z Z ⟨_,Z,Z,Z⟩ B4 Z Z ?_;refine oM<|x3 Z Z Z ?_;refine⟨Z,?_⟩;refine sO<|m2 Z Z<|mBk hg gN (c:=false) Z Z Z<|mn<|cF Z<|kM ?_;refine⟨Z,?_⟩;refine⟨O,Z,⟨_,Z,?_⟩⟩;refine mL ?_;refine oM<|x4 Z Z Z Z ?_;refine⟨Z,?_⟩;refine mL ?_;refine oM<|mV Z<|mC Z (wr_6 hk)<|mn ?_;refine⟨Z,?_⟩;refine mL ?_;refine oM<|x1 Z ?_;refine⟨Z,?_⟩;refine mU ?_;refine mL ?_;refine oM<|x1 Z ?_;refine⟨Z,?_⟩;refine nH ?_;refine ExP.loop 1 ?_;refine .inl ?_;refine mL ?_;refine oM<|mBk hg gN (c:=true) Z Z Z<|mn ?_;refine⟨Z,?_⟩;refine mL ?_;refine cT Z<|kM ?_;refine⟨Z,?_⟩;refine mU ?_;refine nH ?_;refine mL ?_;refine oM<|x2 Z Z ?_;refine⟨Z,?_⟩;refine nC hg ?_;refine K9 hg gN Z Z O<|K9 hg gN Z Z O<|K9 hg gN Z Z O<|K9 hg gN Z Z (by grind[Ah])<|LT hg Z (p25 hk hg) ⟨_,rec23 hg,_,Z,Z⟩
end Go.Abs
namespace Go.Abs
open Go.Proofs Go.RowKit
set_option maxRecDepth 100000
def Hn (l:Bz):Nat:=l.foldl (λn b=>n*256+b.toNat) 0
theorem OR (l:Bz)(b:UInt8):Hn (l++[b])=Hn l*256+b.toNat:=by simp[Hn]
theorem UK {l:Bz}{i:Nat}(h:i<N l):l.take (i+1)=l.take i++[l.getD i 0]:=by simp_all
theorem NO {l:Bz}{i:Nat}(h:i<N l):Hn (l.take<|i+1)=Hn (l.take i)*256+(l.getD i 0).toNat:=by rw[UK h,OR]
theorem T8 :∀(l:Bz) (n:Nat),l.foldl (λn b=>n*256+b.toNat) n=n*256^N l+Hn l
 | [],n=>by simp[Hn]
 |b::l,n=>by
  have h1:Hn (b::l)=(0*256+b.toNat)*256^N l+Hn l:=by rw[Hn,mX,T8 l]
  rw[mX,T8 l,h1,lCo,Nat.pow_succ,cJ,bS,bE,Nat.mul_assoc,fO 256];omega
theorem u8_lt (b:UInt8):b.toNat<256:=b.toNat_lt
theorem KX :∀(l:Bz),Hn l<256^N l
 | []=>by simp[Hn]|b::l=>by have h:=KX l;have hb:=u8_lt b;rw[Hn,mX,T8 l,lCo,Nat.pow_succ,cJ,bS];have:b.toNat*256^N l≤255*256^N l:=Nat.mul_le_mul_right _ Y;omega
theorem Gp :∀(k n:Nat),Hn (Ad k n)=n%256^k
 |0,n=>by simp[Hn,Ad,Nat.mod_one]|k+1,n=>by rw[Ad,Hn,mX,T8,Ak,Gp k,Nat.mod_pow_succ,cJ,bS,nG,fO<|256^k,show(2:Nat)^8=256 from rfl];omega
theorem or_add {a c:Nat}(ha:a<1099511627776)(hc:c<256):U.wrap (((cI 64 ((a*256:Nat):Int))|||cI 64 ((c:Nat):Int)).toNat:Int)=((a*256+c:Nat):Int):=by
 have h1:(cI 64 ((a*256:Nat):Int)|||cI 64 ((c:Nat):Int)).toNat=a*256+c:=by rw[BitVec.toNat_or,nD,nD,nI,nI,mN Y,mN Y,fO];exact(Nat.two_pow_add_eq_or_of_lt (i:=8) hc a).symm
 grind[w64]
theorem KS (bd:Nat→Bz){n:Nat}:∀{m:Nat},n<m→∃r,D6 bd m=D6 bd n++(Ad 1 (n+1)++(Ad 4 (N<|bd n)++(bd n++Ad 4 (Qd<|bd n))))++r
 |0,h=>Y
 |m+1,h=>by
  by_cases e:n=m;·subst e;exact⟨[],by rw[D6,lP];rfl⟩
  ·obtain⟨r,hr⟩:=KS bd (n:=n) (m:=m) Y;grind[D6]
theorem turn_at {M:Bz}{j:Nat}(h:j<N M):M=M.take j++M.getD j 0::M.drop (j+1):=by simp_all
end Go.Abs
namespace Go.Abs
open Go.Proofs Go.RowKit
set_option maxRecDepth 100000
variable {W0 : World} {G : List (Nat × AVal)}
def Seg (s:Bz)(a:Nat)(q:Bz):Prop:=∃A R,s=A++(q++R)∧N A=a
theorem Seg.len {s q:Bz}{a:Nat}(h:Seg s a q):a+N q≤N s:=by obtain⟨A,R,rfl,rfl⟩:=h;simp
theorem Seg.cut {s q:Bz}{a:Nat}(h:Seg s a q):(s.take<|a+N q).drop a=q:=by
 obtain⟨A,R,rfl,rfl⟩:=h;rw[List.take_append,bU Y,List.drop_left',Nat.add_sub_cancel_left,List.take_left'];·rfl
 ·rfl
theorem Seg.l {s q r:Bz}{a:Nat}(h:Seg s a<|q++r):Seg s a q:=by obtain⟨A,R,rfl,rfl⟩:=h;exact⟨A,r++R,by rw[cE],rfl⟩
theorem Seg.r {s q r:Bz}{a:Nat}(h:Seg s a<|q++r):Seg s (a+N q) r:=by obtain⟨A,R,rfl,rfl⟩:=h;exact⟨A++q,R,by rw[cE,cE],by rw[lAp]⟩
theorem Seg.one {s q:Bz}{a i:Nat}(h:Seg s a q)(hi:i<N q):Seg s (a+i) [q.getD i 0]:=by rw[turn_at hi]at h;have h1:=h.r;rw[lW,Nat.min_eq_left Y]at h1;exact Seg.l (r:=q.drop<|i+1) h1
theorem needC {q:Bz}{i:Nat}(hlt:i<N q):(q.take<|i+1).drop i=[q.getD i 0]:=by rw[lK hlt,List.drop_left' bY26,eZ,gGe hlt,mJ]
def rdX (s:Bz)(a:Nat)(L:AVal)(X:Hz):Hz:=C 75 [S s,J U a,L] false::X
abbrev rd (s:Bz)(a:Nat)(L:AVal):Hz:=rdX s a L []
theorem frHa {H:Hz}{n:Nat}:∀{A B Cx D:Hz},FrH H n A B→FrH H n Cx D→FrH H n (A++Cx) (B++D)
 | [],[],_,_,_,k=>k|_::_,_::_,_,_,h,k=>⟨h.1,frHa h.2 k⟩| [],_::_,_,_,h,_=>h.elim|_::_,[],_,_,h,_=>h.elim
section
variable {L : AVal} {X : Hz}
theorem rdB (hL:blw 0 L=true){s:Bz}{x:Int}:A8 0 [S s,J U x,L]=true:=by show cond (blw 0 L) true false=true;rw[hL];rfl
theorem rdH {n:Nat}(hL:blw 0 L=true){s:Bz}{a:Nat}:B7 n (rd s a L)=true:=by show cond (A8 n [S s,J U a,L]) true false=true;rw[Dv (hZ n) _<|rdB hL];rfl
theorem rdAt2 {L':AVal}{wr:Value→Ending}{f:FuncId}{rest:List AVal}{v:AVal}{s:Bz}{a a' i:Nat}{H:Hz}(hL:blw 0 L=true)(hL':blw 0 L'=true)(hi:H[i]?=some (C 75 [S s,J U a,L] false))(hr:A8 0 rest=true)(hv:blw 0 v=true)(h:Jw gH W0 wr f (aP 0 0::rest) (rd s a L) v<|rd s a' L'):
 Jw gH W0 wr f (aP i 0::rest) H v (H.set i<|C 75 [S s,J U a',L'] false):=by
 have e:∀x:Int,G7 (λ_=>i) (C 75 [S s,J U x,L] false)=C 75 [S s,J U x,L] false:=λx=>by show C 75 (F9 _ [S s,J U x,L]) false=_;rw[Bv _<|rdB hL]
 have hsel:Sel [i] 1 (rd s a L) H (λ_=>i):=by
  refine⟨B4,Z,Z,λj hj=>?_,λk hk=>?_,λj o ho=>?_⟩
  ·obtain rfl:j=0:=by omega
   rfl
  ·rw[List.mem_singleton]at hk;subst hk;exact(aC.1 hi).1
  ·have hj:j<1:=(aC.1 ho).1;obtain rfl:j=0:=Y;have ho:some (C 75 [S s,J U a,L] false)=some o:=ho;injection ho with ho;subst ho;rw[e];exact hi
 have h1:=Jw.ren (args:=aP 0 0::rest) (H:=H) (H0:=rd s a L) (H0':=rd s a' L') [i] (λ_=>i) hsel (rdH hL) (show A8 1 rest=true from Dv (hZ 1) _ hr) Z h;have h2:F9 (λ_=>i) (aP 0 0::rest)=aP i 0::rest:=by show _::F9 _ rest=_;rw[Bv _ hr];rfl
 rw[h2,Ik _ hv]at h1;have h3:Ei [i] ((rd s a' L').map<|G7 λ_=>i) H=H.set i (C 75 [S s,J U a',L'] false):=by show H.set i (C 75 (F9 _ [S s,J U a',L']) false)=_;rw[Bv _<|rdB hL']
 rw[h3]at h1;exact h1
theorem rdAt {wr:Value→Ending}{f:FuncId}{rest:List AVal}{v:AVal}{s:Bz}{a a' i:Nat}{H:Hz}(hL:blw 0 L=true)(hi:H[i]?=some (C 75 [S s,J U a,L] false))(hr:A8 0 rest=true)(hv:blw 0 v=true)(h:Jw gH W0 wr f (aP 0 0::rest) (rd s a L) v<|rd s a' L):
 Jw gH W0 wr f (aP i 0::rest) H v (H.set i<|C 75 [S s,J U a',L] false):=rdAt2 hL hL hi hr hv h
theorem takeW (hg:hGr W0 G){s:Bz}{a k:Nat}(h:a+k≤N s)(hl:N s≤1000000):cP W0 57 [aP 0 0,J U k] (rdX s a L X) (S<|(s.take<|a+k).drop a) (rdX s (a+k) L X):=by refine goW 57 47 (N X+1) ?_;refine Wm ?_;refine kD ?_;refine vQ Z<|vQ Z<|vQ Z<|vQ Z<|vQ Z<|vQ Z<|vQ Z<|vQ Z<|vQ Z<|vQ Z<|qKv (v:=J U (N s-a:Nat)) Z Z O (Bw Y Y Y)<|qBk (c:=false) Z Z (dF Y)<|Dx ?_;refine Wm ?_;refine ExM.sub (s1:=⟨.al [(0,aP 0 0),(1,J U k)],rdX s (a+k) L X,47⟩) (Ap Z Z<|sbC Z<|sbC Z sbN) ?_;refine Wm ?_;refine kD ?_;refine vQ Z<|vQ Z<|vQ Z<|vQ Z<|vQ Z<|vQ Z<|vQ Z<|vQ Z<|vQ Z<|qKv (v:=J U a) Z Z O (Bw Y Y Y)<|vQ Z<|vQ Z<|vQ Z<|vQ Z<|Ao (v:=S<|(s.take<|a+k).drop a) Z Z bY48<|vQ Z<|Dx ?_;refine Wm ?_;exact pS
theorem KH (hg:hGr W0 G){s q:Bz}{a:Nat}(h:Seg s a q)(hl:N s≤1000000):cP W0 57 [aP 0 0,J U<|N q] (rdX s a L X) (S q) (rdX s (a+N q) L X):=by have h1:=takeW (W0:=W0) (L:=L) (X:=X) hg h.len hl;rw[h.cut]at h1;exact h1
theorem hF0 (hL:blw 0 L=true):∀(H:Hz) (n:Nat),N ([]:Hz)+1≤n→FzV H n L L∧FrH H n [] []:=λ_ _ _=>⟨Aq hL,frN⟩
theorem numX1 (hg:hGr W0 G)(hF:∀(H:Hz) (n:Nat),N X+1≤n→FzV H n L L∧FrH H n X X){s l:Bz}{a w:Nat}(h:Seg s a l)(hl:N s≤1000000)(h4:N l=w)(hw:w≤4):cP W0 58 [aP 0 0,J U w] (rdX s a L X) (J U<|Hn l) (rdX s (a+w) L X):=by
 have ht:=KH (W0:=W0) (L:=L) (X:=X) hg h hl;subst h4;have hbl:A8 0 (u8c l)=true:=Ci l;have hfr:∀(H:Hz) (n:Nat),N X+1≤n→FrH H n (rdX s (a+N l) L X) (rdX s (a+N l) L X):=λH n hn=>frC (frO<|flC fvS<|flC fvI<|flC (hF H n hn).1 flN) (hF H n hn).2;have hln:N (rdX s (a+N l) L X)=N X+1:=rfl;have hget:(rdX s (a+N l) L X++[C 5 (u8c l) false])[N X+1]?=some (C 5 (u8c l) false):=by rw[mP (by rw[hln];omega),hln,Nat.sub_self];rfl
 have hst:∀(i:Nat) (e:Env) (n:Nat),e.get 4=some (J U<|Hn<|l.take i)→e.get 10=some (aH 1 (N X+1) 0 (N l) none)→e.get 11=some (J U<|N l)→e.get 12=some (J U i)→Fh (N X+1) ⟨.al [(4,J U<|Hn<|l.take i),(10,aH 1 (N X+1) 0 (N l) none),(11,J U<|N l),(12,J U i)],rdX s (a+N l) L X++[C 5 (u8c l) false],n⟩ ⟨e,rdX s (a+N l) L X++[C 5 (u8c l) false],n⟩:=λi e n h1 h2 h3 h4=>B6 (N X+2) (by show FrH _ _ (List.take _ _) _;rw[bU (by rw[lAp,hln];exact bC _)];exact frHa (hfr _ _ Y)<|frC (frS hbl) frN) (fzC h1 fvI<|fzC h2 (D3 Y)<|fzC h3 fvI<|fzC h4 fvI fzN) (hm:=by omega);refine goW 58 23 (N X+1) ?_;refine Wm ?_;refine mS (v:=aH 1 (N X+1) 0 (N l) none) Z ?_;refine Wm ?_;refine lZ (σ:=Nat) (τ:=Unit) (λi=>⟨.al [(4,J U<|Hn<|l.take i),(10,aH 1 (N X+1) 0 (N l) none),(11,J U<|N l),(12,J U i)],rdX s (a+N l) L X++[C 5 (u8c l) false],23⟩) (λi=>i≤N l) (λi=>N l-i) 0 (λ_=>⟨.al [(4,J U<|Hn l)],rdX s (a+N l) L X,23⟩) (λ_=>True) ?_ (hZ _) ?_ ?_;·exact hst 0 _ _ Z Z Z Z
 ·intro i hi;have hi:i≤N l:=hi;by_cases hlt:i<N l
  ·have e8:=NO hlt;have hv:Hn (l.take i)<1099511627776:=by have h1:=KX<|l.take i;have h2:N (l.take i)≤4:=bY26;have h3:256^N (l.take i)≤256^4:=Nat.pow_le_pow_right V h2;omega
   have hc:=u8_lt<|l.getD i 0;have hrd:C3 1 false (u8c l) i=some (J .u8<|(l.getD i 0).toNat):=by
    have hlt:i<N (u8c l):=by rw[u8c,jY];omega
    rw[C3,fQ hlt];simp only[u8c,List.getElem_map,eZ,gGe (show i<N l by omega),mJ];rfl
   refine Wm ?_;refine mS (v:=aP (N X+1) i) (MS Z Z hget) ?_ (hs:=by simp only[Ah,and_true];omega);refine mV (v:=J .u8<|(l.getD i 0).toNat) (O9 Z hget hrd) ?_;refine Wm ?_;refine mI ((Hn (l.take i)*256:Nat):Int) Z ?_ (h1:=by show _≤((Hn (l.take i):Nat):Int)*256;omega) (h2:=by show((Hn (l.take i):Nat):Int)*256≤_;omega) (h3:=by show((Hn (l.take i):Nat):Int)*256=_;omega);refine mV Z ?_;refine mI (((l.getD i 0).toNat:Nat):Int) Z ?_;refine mKs (v:=J U<|Hn<|l.take<|i+1) Z (congrArg (J U)<|(or_add hv hc).trans (by rw[e8])) ?_;refine Wm ?_;exact hoN (i+1) hlt Y<|hst (i+1) _ _ Z Z Z Z
  ·have he:i=N l:=by omega
   subst he;refine Wm ?_;exact hoE () O<|B6 (N X+1) (by rw[List.take_left' hln];exact hfr _ _ Y) (fzC Z (I7 (by rw[bU<|bC _])) fzN) (hm:=by omega)
 intro _ _;refine Wm ?_;exact We
theorem numS (hg:hGr W0 G)(hL:blw 0 L=true){s l:Bz}{a w:Nat}(h:Seg s a l)(hl:N s≤1000000)(h4:N l=w)(hw:w≤4):cP W0 58 [aP 0 0,J U w] (rd s a L) (J U<|Hn l) (rd s (a+w) L):=numX1 hg (hF0 hL) h hl h4 hw
theorem num4 (hg:hGr W0 G)(hL:blw 0 L=true){s l:Bz}{a:Nat}(h:Seg s a l)(hl:N s≤1000000)(h4:N l=4):cP W0 58 [aP 0 0,J U 4] (rd s a L) (J U<|Hn l) (rd s (a+4) L):=numS hg hL h hl h4 V
theorem needS (hg:hGr W0 G)(hL:blw 0 L=true){s q:Bz}{a:Nat}(h:Seg s a q)(hl:N s≤1000000)(hq:N q≤1000):cP W0 21 [aP 0 0,S q] (rd s a L) (aU []) (rd s (a+N q) L):=by
 refine goW 21 26 1 ?_;refine Wm ?_;refine ExM.lpA (σ:=Nat) (λi=>⟨.al [(0,aP 0 0),(1,S q),(6,J U<|N q),(7,J U i)],rd s (a+i) L,26⟩) (λi=>i≤N q) (λi=>N q-i) 0 (B6 1 (frC (frS<|rdB hL) frN)<|fzC Z (Af V)<|fS<|fI<|fI fzN) (hZ _) ?_;intro i hi;by_cases hlt:i<N q;·have h1:=KH (W0:=W0) (L:=L) (X:=[]) hg (h.one hlt) hl;have hc:=needC hlt;refine Wm ?_;refine nA hg 1 Z ?_;refine J0 Z Z O<|PO Z Z Z h1<|J0 Z Z O<|J0 Z Z O<|J0 Z Z O<|wKv (v:=J U (i+1:Nat)) Z Z O (Bw Y Y Y)<|wKv (v:=S [q.getD i 0]) Z Z bY48 (congrArg S hc)<|wBk (c:=false) Z Z B4<|SF ?_;refine Wm ?_;exact haN (i+1) (by show i+1≤N q;omega) (by show N q-(i+1)<N q-i;omega)<|B6 1 (frC (frS<|rdB hL) frN)<|fzC Z (Af V)<|fS<|fI<|fI fzN
 ·have he:i=N q:=by have:i≤N q:=hi;omega
  subst he;refine Wm ?_;refine haE<|kJ ?_;exact pS
theorem encU {i:Nat}(hi:i<5):(Utf8.encode<|IntKind.i32.wrap ((i+1:Nat):Int)).data.toList=Ad 1 (i+1):=by have:i=0∨i=1∨i=2∨i=3∨i=4:=Y;rcases this with rfl|rfl|rfl|rfl|rfl<;>(show _=_;kernel_rfl)
theorem secS (hg:hGr W0 G)(hL:blw 0 L=true){s b:Bz}{a i:Nat}(hi:i<5)(h:Seg s a<|Xf i b)(hl:N s≤1000000):cP W0 22 [aP 0 0,J U (i+1:Nat)] (rd s a L) (S b) (rd s (a+9+N b) L):=by
 have hb:N b≤N s:=by have:=h.len;simp only[Xf,lAp]at this;omega
 have h0:=needS (W0:=W0) (L:=L) hg hL (q:=Ad 1<|i+1) h.l hl (by rw[Ak];decide);have h1:=num4 (W0:=W0) (L:=L) hg hL h.r.l hl<|Ak _ _;have h2:=KH (W0:=W0) (L:=L) (X:=[]) hg h.r.r.l hl;have h3:=num4 (W0:=W0) (L:=L) hg hL h.r.r.r hl<|Ak _ _;have h4:=sumP (W0:=W0) hg (s:=b) Y;simp only[Ak]at h0 h1 h2 h3;rw[Gp,mN Y]at h1;rw[Gp,mN<|Nat.lt_trans (BD _) V]at h3;rw[show a+1+4=a+5 by omega]at h1 h2 h3;rw[show a+5+N b+4=a+9+N b by omega]at h3;have h5:=λH=>hO (W0:=W0) (P:=gH) Z Z h4 H;have hu:=encU hi;refine goW 22 29 1 ?_;refine Wm ?_;rw[hu];refine mC Z h0 ?_;refine Wm ?_;refine mF Z ?_ (hb:=by simp);exact We
end
end Go.Abs
namespace Go.Abs
open Go.RowKit
def c3 (n:Nat)(F:Nat→Nat→AVal):List AVal:=(eD<|n*3).map λj=>F (j/3)<|j%3
theorem Y9 {n:Nat}{F:Nat→Nat→AVal}:N (c3 n F)=n*3:=by simp[c3]
theorem Xn {n k:Nat}{F:Nat→Nat→AVal}:(c3 n F)[k]?=if k<n*3 then some (F (k/3)<|k%3)else none:=by
 rw[c3,mY];by_cases h:k<n*3;·rw[nE h,if_pos h];rfl
 ·rw[mW Jo,if_neg h];rfl
theorem c3_set {n:Nat}{F:Nat→Nat→AVal}{i f:Nat}{v:AVal}(hi:i<n)(hf:f<3):spl (c3 n F) (0+i*3+f) [v]=c3 n λj g=>if j=i∧g=f then v else F j g:=by
 apply mR;intro k;have hl:=Y9 (n:=n) (F:=F);show((c3 n F).take (0+i*3+f)++([v]++(c3 n F).drop (0+i*3+f+1)))[k]?=_;rw[Xn,bS];by_cases h:k<i*3+f;·rw[List.getElem?_append_left bY26,List.getElem?_take_of_lt h,Xn,if_neg (Y:¬(k/3=i∧k%3=f))]
 ·rw[mP bY26,lW,Nat.min_eq_left Y];by_cases e:k=i*3+f;·subst e;rw[Nat.sub_self,if_pos Y,if_pos (Y:(i*3+f)/3=i∧(i*3+f)%3=f)];rfl
  ·rw[mP Jo,List.getElem?_drop,Xn,if_neg (Y:¬(k/3=i∧k%3=f))];simp only[lCo,lNi];rw[show i*3+f+1+(k-(i*3+f)-(0+1))=k by omega]
theorem Zm :∀(n:Nat) (F:Nat→Nat→AVal),Da 3 n (c3 n F)=(eD n).map λj=>aG [F j 0,F j 1,F j 2]
 |0,_=>rfl
 |n+1,F=>by
  have e:c3 (n+1) F=F 0 0::F 0 1::F 0 2::c3 n λj=>F (j+1):=by
   apply mR;intro k;rw[Xn]
   match k with
   |0=>rw[if_pos Y];rfl|1=>rw[if_pos Y];rfl|2=>rw[if_pos Y];rfl
   |k+3=>
    rw[eT,eT,eT,Xn];by_cases h:k<n*3;·rw[if_pos Y,if_pos h,show(k+3)/3=k/3+1 by omega,show(k+3)%3=k%3 by omega]
    ·rw[if_neg Y,if_neg h]
  rw[e];show aG [F 0 0,F 0 1,F 0 2]::Da 3 n (c3 n λj=>F<|j+1)=_;rw[Zm n,List.range_succ_eq_map,jZ,List.map_map];rfl
theorem c3_bl {m n:Nat}{F:Nat→Nat→AVal}(h:∀j f,blw m (F j f)=true):A8 m (c3 n F)=true:=by
 have:∀l:List Nat,A8 m (l.map λj=>F (j/3)<|j%3)=true:=λl=>by induction l with|nil=>rfl|cons a l ih=>rw[jZ];show cond (blw m _) _ false=true;rw[h,ih];rfl
 exact this _
theorem Sl {H:Hz}{n k id len T:Nat}{cs es:List AVal}{cp:Option Nat}{op:Bool}(hn:n≤id)(hk:1≤k)(ho:H[id]?=some (C T cs op))(hl:len*k=N cs)(hc:Da k len cs=es)(hb:A8 0 es=true):FzV H n (aH k id 0 len cp) (aR k es):=by
 obtain⟨f,hf⟩:=Ir (H:=H) (n:=n) es hb;refine .inl ⟨f+1,?_⟩;have h1:bB id n=false:=BK Y;have h2:bK 1 k=true:=by rw[Nat.ble_eq];exact hk
 have h3:(aA 0 0&&aA (len*k) (N cs))=true:=by rw[hl];simp
 cases op with|true=>simp only[frz,h1,cond_false,h2,cond_true,ho,h3,hc,hf f<|bC _]|false=>simp only[frz,h1,cond_false,h2,cond_true,ho,List.drop_zero,hc,hf f<|bC _]
theorem S8 {G:List (Nat×AVal)}{s:St}{x i:AOpd}{m n id T:Nat}{c:Option Nat}{cs:List AVal}(hx:ev G s x=some (aH 3 id 0 m c))(hi:ev G s i=some (J U (n:Nat)))(ho:s.H[id]?=some (C T cs false)):aop G s (.idxSl 3 x i)=some (.val (aP id<|0+n*3) s.H [(0,(n:Nat)),((n:Nat)+1,(m:Nat))]):=by
 have hl:Lu s.H id=true:=by simp only[Lu,ho]
 simp only[aop,hx,hi,Int.toNat_natCast,hl,fY,kC,cond_true]
theorem BM {G:List (Nat×AVal)}{s:St}{a x:AOpd}{n i f id T:Nat}{F:Nat→Nat→AVal}{v:AVal}{H':Hz}(ha:ev G s a=some (aP id<|0+i*3+f))(hx:ev G s x=some v)(ho:s.H[id]?=some (C T (c3 n F) false))(hi:i<n)(hf:f<3)(hv:v.cells=[v])(h1:v.one=true)(hH:s.H.set id (C T (c3 n λj g=>if j=i∧g=f then v else F j g) false)=H'):aop G s (.store 1 a x)=some (.skip H'):=by
 refine J9 ha hx ho ?_ ?_;·rw[hv];simp only[lCo,lNi,List.all_cons,h1,List.all_nil,Y9,Bool.and_true,bAt,Nat.ble_eq];exact⟨Z,Y⟩
 ·rw[hv,c3_set hi hf];exact hH
def g3 (A B Cx:Nat→AVal)(x y z:AVal)(a b c:Nat)(k f:Nat):AVal:=match f with
 |0=>if k<a then A k else x|1=>if k<b then B k else y|2=>if k<c then Cx k else z|_=>z
section
variable {A B Cx : Nat → AVal} {x y z : AVal} {n i : Nat}
theorem g3_z :Iq [x,y,z] (n*3)=c3 n (g3 A B Cx x y z 0 0 0):=by refine nF λj _=>?_;have:j%3=0∨j%3=1∨j%3=2:=Y;show[x,y,z].getD (j%3) _=_;rcases this with h|h|h<;>rw[h]<;>rfl
theorem g3_0 {b c:Nat}:(λj g=>if j=i∧g=0 then A i else g3 A B Cx x y z i b c j g)=g3 A B Cx x y z (i+1) b c:=by
 funext j g
 match g with
 |0=>
  show(if j=i∧0=0 then A i else if j<i then A j else x)=if j<i+1 then A j else x;by_cases h:j=i;·subst h;simp
  ·by_cases h2:j<i;·rw[if_neg Y,if_pos h2,if_pos Y]
   ·rw[if_neg Y,if_neg h2,if_neg Y]
 |1=>rw[if_neg Y];rfl|2=>rw[if_neg Y];rfl|g+3=>rw[if_neg Y];rfl
theorem g3_1 {a c:Nat}:(λj g=>if j=i∧g=1 then B i else g3 A B Cx x y z a i c j g)=g3 A B Cx x y z a (i+1) c:=by
 funext j g
 match g with
 |1=>
  show(if j=i∧1=1 then B i else if j<i then B j else y)=if j<i+1 then B j else y;by_cases h:j=i;·subst h;simp
  ·by_cases h2:j<i;·rw[if_neg Y,if_pos h2,if_pos Y]
   ·rw[if_neg Y,if_neg h2,if_neg Y]
 |0=>rw[if_neg Y];rfl|2=>rw[if_neg Y];rfl|g+3=>rw[if_neg Y];rfl
theorem g3_2 {a b:Nat}:(λj g=>if j=i∧g=2 then Cx i else g3 A B Cx x y z a b i j g)=g3 A B Cx x y z a b (i+1):=by
 funext j g
 match g with
 |2=>
  show(if j=i∧2=2 then Cx i else if j<i then Cx j else z)=if j<i+1 then Cx j else z;by_cases h:j=i;·subst h;simp
  ·by_cases h2:j<i;·rw[if_neg Y,if_pos h2,if_pos Y]
   ·rw[if_neg Y,if_neg h2,if_neg Y]
 |0=>rw[if_neg Y];rfl|1=>rw[if_neg Y];rfl|g+3=>rw[if_neg Y];rfl
theorem g3_bl {m a b c:Nat}(hA:∀k,blw m (A k)=true)(hB:∀k,blw m (B k)=true)(hC:∀k,blw m (Cx k)=true)(hx:blw m x=true)(hy:blw m y=true)(hz:blw m z=true):A8 m (c3 n<|g3 A B Cx x y z a b c)=true:=c3_bl λj f=>by match f with|0=>show blw m (if j<a then A j else x)=true;split;exact hA j;exact hx|1=>show blw m (if j<b then B j else y)=true;split;exact hB j;exact hy|2=>show blw m (if j<c then Cx j else z)=true;split;exact hC j;exact hz|f+3=>exact hz
theorem g3_f {α:Type}{l:List α}{d:α}{F:α→AVal}(h:∀k,k<N l→F (l.getD k d)=aG [A k,B k,Cx k]):Da 3 (N l) (c3 (N l)<|g3 A B Cx x y z (N l) (N l)<|N l)=l.map F:=by
 rw[Zm];apply mR;intro k;by_cases hk:k<N l;·rw[mY,mY,nE hk,gGe hk,bQ,bQ];have:=h k hk;rw[eZ,gGe hk,mJ]at this;rw[this];simp only[g3,if_pos hk]
 ·rw[mW Jo,mW Jo]
end
section
variable {P : Program} {W0 : World} {G : List (Nat × AVal)} {p : SP}
variable {l : List (Nat × AVal)} {H H' : Hz} {n j σ : Nat} {M : HMap} {pd : List Pd} {K : St → Prop} {r : List AOper}
theorem jC {d:Nat}{op:AOp}{f:Nat}{args:List AVal}{v:AVal}(hc:A5 P W0 f args H v H')(k:C7 P W0 G p r (j+1) (SP.nxt σ j) ((SP.nxt σ j,H')::M) pd ⟨.al ((d,v)::l),H',n⟩ K)(h:aop G ⟨.al l,H,n⟩ op=some (.call f args):=by with_unfolding_all exact rfl)(hd:(Nat.blt d n&&Nat.blt d 4094)=true:=by with_unfolding_all rfl)(he:(p.eff j&&(nEq (p.steps σ) [j]&& !(E0 (SP.nxt σ j) M)))=true:=by kernel_rfl)
 (hp:Ij P W0 G p (SP.nxt σ j) H' n pd:=by repeat (first|exact pdN|refine pdC (cN (by dsimp only;decide+kernel)) ?_|refine pdC (cY (by dsimp only;decide+kernel)<|evY rfl trivial) ?_)):C7 P W0 G p (⟨some d,none,op⟩::r) j σ M pd ⟨.al l,H,n⟩ K:=V5 h hd hc he hp k
theorem jE {d:Nat}{op:AOp}{v:AVal}{side:List (Int×Int)}(h:aop G ⟨.al l,H,n⟩ op=some (.val v H' side))(k:C7 P W0 G p r (j+1) (SP.nxt σ j) ((SP.nxt σ j,H')::M) pd ⟨.al ((d,v)::l),H',n⟩ K)(hs:Ah side:=by first|with_unfolding_all exact trivial|(simp only[Ah,and_true,C0];omega))(hd:(Nat.blt d n&&Nat.blt d 4094)=true:=by with_unfolding_all rfl)(he:(p.eff j&&(nEq (p.steps σ) [j]&& !(E0 (SP.nxt σ j) M)))=true:=by kernel_rfl)
 (hp:Ij P W0 G p (SP.nxt σ j) H' n pd:=by repeat (first|exact pdN|refine pdC (cN (by dsimp only;decide+kernel)) ?_|refine pdC (cY (by dsimp only;decide+kernel)<|evY rfl trivial) ?_)):C7 P W0 G p (⟨some d,none,op⟩::r) j σ M pd ⟨.al l,H,n⟩ K:=Rl h hd hs he hp k
theorem jS {op:AOp}(h:aop G ⟨.al l,H,n⟩ op=some (.skip H'))(k:C7 P W0 G p r (j+1) (SP.nxt σ j) ((SP.nxt σ j,H')::M) pd ⟨.al l,H',n⟩ K)(he:(p.eff j&&(nEq (p.steps σ) [j]&& !(E0 (SP.nxt σ j) M)))=true:=by kernel_rfl)
 (hp:Ij P W0 G p (SP.nxt σ j) H' n pd:=by repeat (first|exact pdN|refine pdC (cN (by dsimp only;decide+kernel)) ?_|refine pdC (cY (by dsimp only;decide+kernel)<|evY rfl trivial) ?_)):C7 P W0 G p (⟨none,none,op⟩::r) j σ M pd ⟨.al l,H,n⟩ K:=Wp h he hp k
theorem jV {d:Nat}{op:AOp}{v v0:AVal}{side:List (Int×Int)}(h:aop G ⟨.al l,H,n⟩ op=some (.val v0 H side))(hv:v0=v)(k:C7 P W0 G p r (j+1) σ M (cond (Nat.beq (p.kind.getD j 0) 0|| !(p.states.any λx=>!(E0 x M)&&p.mayB x j)) pd (⟨j,⟨some d,none,op⟩,.al l,v⟩::pd)) ⟨.al ((d,v)::l),H,n⟩ K)(hs:Ah side:=by first|with_unfolding_all exact trivial|(simp only[Ah,and_true,C0];omega))(hd:(Nat.blt d n&&Nat.blt d 4094)=true:=by with_unfolding_all rfl)
 (he:(!(p.eff j)&&(Nat.beq (p.kind.getD j 0) 0||(M.all λx=>Nat.beq x.1 σ|| !(p.mayB x.1 j))))=true:=by kernel_rfl):C7 P W0 G p (⟨some d,none,op⟩::r) j σ M pd ⟨.al l,H,n⟩ K:=by
 subst hv;exact Ha h hd hs he k
theorem jQ {d:Nat}{op:AOp}{v:AVal}(h:aop G ⟨.al l,H,n⟩ op=some (.val v H []))(k:C7 P W0 G p r (j+1) σ M (cond (Nat.beq (p.kind.getD j 0) 0|| !(p.states.any λx=>!(E0 x M)&&p.mayB x j)) pd (⟨j,⟨some d,none,op⟩,.al l,v⟩::pd)) ⟨.al ((d,v)::l),H,n⟩ K)(hd:(Nat.blt d n&&Nat.blt d 4094)=true:=by with_unfolding_all rfl)
 (he:(!(p.eff j)&&(Nat.beq (p.kind.getD j 0) 0||(M.all λx=>Nat.beq x.1 σ|| !(p.mayB x.1 j))))=true:=by kernel_rfl):C7 P W0 G p (⟨some d,none,op⟩::r) j σ M pd ⟨.al l,H,n⟩ K:=Ha h hd trivial he k
theorem jN (k:K ⟨.al l,H,n⟩)(h:(Nat.beq σ p.fin&&nEq (p.steps σ) []&&p.states.all λx=>E0 x M)=true:=by kernel_rfl):C7 P W0 G p [] j σ M pd ⟨.al l,H,n⟩ K:=⟨h,k⟩
theorem Wc {A B:Prop}(k:B)(h:Wrp B→A:=by
 intro wk
 repeat (first
  |with_reducible refine jQ Cc ?_|refine jS Cc ?_|with_reducible refine jN ?_)
 exact wk.x):A:=h ⟨k⟩
end
end Go.Abs
namespace Go.Abs
open Go.Proofs Go.RowKit
set_option maxRecDepth 100000
variable {W0 : World} {G : List (Nat × AVal)}
def Br (T:List Bz):AVal:=aR 1<|T.map S
theorem Bf {T:List Bz}:blw 0 (Br T)=true:=Cf T
attribute [simp] Bf Av B8 Cf B9
theorem fR {m:Nat}{l:List (Nat×AVal)}{H:Hz}{n:Nat}{s:St}(k:Nat)
 (hH:FrH s.H k (s.H.take k) H:=by repeat' first|exact frN|refine frC ?_ ?_|(refine frS ?_;first|rfl|assumption|exact Bf|(simp;done))|refine frO ?_|exact flN|refine flC ?_ ?_|exact fvI|exact fvB|exact fvS|exact Am|exact Oa|(refine Af ?_;decide)|(refine D3 ?_;decide)|(refine Aq ?_;first|rfl|assumption|exact Bf|(simp;done))|(refine I7 ?_;omega)|(refine Gy ?_ ?_<;>first|decide|omega))
 (h:Ks s.H k s.env l:=by repeat' first|exact fzN|refine fzC rfl ?_ ?_|exact fvI|exact fvB|exact fvS|exact Am|exact Oa|(refine Af ?_;decide)|(refine D3 ?_;decide)|(refine Aq ?_;first|rfl|assumption|exact Bf|(simp;done))|(refine I7 ?_;omega)|(refine Gy ?_ ?_<;>first|decide|omega))
 (hn:n=s.n:=by rfl) (hm:m≤k:=by first|exact Nat.zero_le _|decide):Fh m ⟨.al l,H,n⟩ s:=B6 k hH h hn hm
theorem textS (hg:hGr W0 G){s q:Bz}{a n:Nat}{T:List Bz}(h:Seg s a<|Ad 2 n)(hl:N s≤1000000)(hn:n<N T)(hT:N T≤60000)(hq:T.getD n []=q):cP W0 90 [aP 0 0] (rd s a<|Br T) (S q) (rd s (a+2)<|Br T):=by have h1:=numS (W0:=W0) (L:=Br T) hg Bf h hl (Ak _ _) V;rw[Gp,mN Y]at h1;refine goW 90 22 1 ?_;refine Wm ?_;refine mF Z ?_ (hb:=dF (by simp only[jY];omega));refine Wm ?_;refine mS (Dn (f:=S) (d:=[]) Z Z Z hn) ?_ (hs:=by simp only[Ah,and_true];omega);rw[hq];refine Wm ?_;exact We
theorem ED {T:List Bz}{i:Nat}(h:i<N T):T.take (i+1)=T.take i++[T.getD i []]:=by rw[lK h,eZ,gGe h,mJ]
theorem fmTk0 {T:List Bz}(h:0<N T):T.take (0+1)=[T.getD 0 []]:=by rw[ED h];rfl
theorem Ta {α:Type}{f:α→Bz}{l:List α}{s:Bz}{a i:Nat}(d:α)(h:Seg s a<|l.flatMap f)(hi:i<N l):Seg s (a+N ((l.take i).flatMap f)) (f<|l.getD i d):=by
 have e:l.flatMap f=(l.take i).flatMap f++(f (l.getD i d)++(l.drop<|i+1).flatMap f):=by
  conv=>lhs;rw[←List.take_append_drop i l,fQ hi]
  rw[List.flatMap_append,lA,eZ,gGe hi,mJ]
 rw[e]at h;exact h.r.l
def dtS (s:Bz)(T:List Bz):Nat→St
 |0=>⟨.al [(0,aP 0 0),(3,J U<|N T),(4,J U (0:Nat))],rd s 2 aN,20⟩|i+1=>⟨.al [(0,aP 0 0),(3,J U<|N T),(4,J U (i+1:Nat))],rdX s (2+N ((T.take<|i+1).flatMap dcB)) (aH 1 2 0 (N<|T.take<|i+1) none) [C 9 [S<|T.getD 0 []] false,C 9 (Ce<|T.take<|i+1) true],20⟩
set_option maxHeartbeats 4000000 in
theorem dictR (hg:hGr W0 G){T:List Bz}{s:Bz}(hs:s=Ia T)(h0:0<N T)(hT:N T≤60000)(hq:∀q∈T,N q≤60000)(hl:N s≤1000000):cP W0 60 [aP 0 0] (rd s 0 aN) (aU []) (rd s (2+N (T.flatMap dcB))<|Br T):=by
 have hS:Seg s 0 (Ad 2 (N T)++T.flatMap dcB):=⟨[],[],by rw[hs,List.append_nil];rfl,rfl⟩;have hF:=hS.r;rw[Ak,Nat.zero_add]at hF;have r0:=numS (W0:=W0) (L:=aN) hg Z hS.l hl (Ak _ _) V;rw[Gp,Nat.mod_eq_of_lt Y,Nat.zero_add]at r0;have rn:∀(i:Nat) (L:AVal) (X:Hz),i<N T→(∀(H:Hz) (n:Nat),N X+1≤n→FzV H n L L∧FrH H n X X)→cP W0 58 [aP 0 0,J U (2:Nat)] (rdX s (2+N ((T.take i).flatMap dcB)) L X) (J U<|N<|T.getD i []) (rdX s (2+N ((T.take i).flatMap dcB)+2) L X)∧cP W0 57 [aP 0 0,J U<|N<|T.getD i []] (rdX s (2+N ((T.take i).flatMap dcB)+2) L X) (S<|T.getD i []) (rdX s (2+N ((T.take<|i+1).flatMap dcB)) L X):=λi L X hi hX=>by
  have h1:=Ta [] hF hi;have h2:=numX1 (W0:=W0) hg hX h1.l hl (Ak _ _) V;have h3:=KH (W0:=W0) (L:=L) (X:=X) hg h1.r hl;have h4:=hq _<|C5 (d:=[]) hi;rw[Gp,Nat.mod_eq_of_lt Y]at h2;rw[Ak]at h3;have e:N ((T.take<|i+1).flatMap dcB)=N ((T.take i).flatMap dcB)+(2+N (T.getD i [])):=by rw[K3 [] hi,lAp,dcB,lAp,Ak]
  rw[show 2+N ((T.take i).flatMap dcB)+2+N (T.getD i [])=2+N ((T.take<|i+1).flatMap dcB)by omega]at h3;exact⟨h2,h3⟩
 refine goW 60 20 1 ?_;refine Wm ?_;refine ExM.lpA (σ:=Nat) (dtS s T) (λi=>i≤N T) (λi=>N T-i) 0 (B6 1 (frC (frS Z) frN)<|fzC Z (Af V)<|fI<|fI fzN) (Nat.zero_le _) ?_;intro i hi;have hi:i≤N T:=hi;by_cases hlt:i<N T
 ·cases i with
  |zero=>obtain⟨r1,r2⟩:=rn 0 aN [] hlt<|hF0 rfl;unfold dtS;refine Wm ?_;refine ExM.drawC hg ?_;refine Wc ?_;refine jC r1 ?_;refine jC r2 ?_;refine jE (v:=aH 1 1 0 1<|some 1) Z ?_;refine jE (v:=aH 1 2 0 1 none) Z ?_;refine Wc ?_;refine Wm ?_;exact haN 1 hlt Y<|B6 3 (frC (frO<|flC fvS<|flC fvI<|flC (Gy V (by show 1=N (T.take 1);rw[List.length_take];omega)) flN)<|frC (frS Z)<|frC (by rw[fmTk0 h0];exact frS rfl) frN)<|fzC Z (Af V)<|fI<|fI fzN
  |succ i=>obtain⟨r1,r2⟩:=rn (i+1) (aH 1 2 0 (N<|T.take<|i+1) none) [C 9 [S<|T.getD 0 []] false,C 9 (Ce<|T.take<|i+1) true] hlt<|λH n hn=>⟨D3 (by have:3≤n:=hn;omega),frC (frS rfl)<|frC (frS<|Cf _) frN⟩;unfold dtS;refine Wm ?_;refine ExM.drawC hg ?_;refine Wc ?_;refine jC r1 ?_;refine jC r2 ?_;refine jE (v:=aH 1 3 0 1<|some 1) Z ?_;refine jE (Sm (p:=[T.getD (i+1) []]) Z Z Z Z Z Z) ?_ (hs:=by simp only[Ah,and_true,C0,lCo,lNi,List.length_take];omega);refine Wc ?_;refine Wm ?_;exact haN (i+2) hlt Y<|B6 3 (frC (frO<|flC fvS<|flC fvI<|flC (Gy V (by simp only[lAp,lCo,lNi,List.length_take];omega)) flN)<|frC (frS Z)<|frC (by rw[ED hlt];exact frS<|Cf _) frN)<|fzC Z (Af V)<|fI<|fI fzN
 ·obtain⟨n,hn⟩:∃n,N T=n+1:=⟨N T-1,Y⟩;have he:i=n+1:=Y;subst he;have ht:T.take (n+1)=T:=by rw[←hn,List.take_length]
  unfold dtS;refine ExM.fh (s1:=⟨.al [(0,aP 0 0),(3,J U<|N T),(4,J U (n+1:Nat))],rd s (2+N (T.flatMap dcB))<|Br T,20⟩) (B6 1 (frC (frO<|flC fvS<|flC (I7 (by rw[ht]))<|flC (Sl V V Z LL (by rw[ht];have:=L8 T [];rw[List.append_nil]at this;exact this)<|Cf _) flN) frN)<|fzC Z (Af V)<|fI<|fI fzN) ?_;refine Wm ?_;refine haE<|kJ ?_;exact pS
theorem rcN (hg:hGr W0 G){s:Bz}{a w n:Nat}{T:List Bz}(h:Seg s a<|Ad w n)(hl:N s≤1000000)(hw:w≤4)(hn:n<256^w)(X:Hz):cP W0 58 [aP 0 0,J U w] (rdX s a (Br T) X) (J U n) (rdX s (a+w) (Br T) X):=by have h1:=numS (W0:=W0) (L:=Br T) hg Bf h hl (Ak _ _) hw;rw[Gp,mN hn]at h1;exact rdAt (wr:=.returned) (H:=rdX s a (Br T) X) (i:=0) Bf Z Z Z h1
theorem rcT (hg:hGr W0 G){s q:Bz}{a n:Nat}{T:List Bz}(h:Seg s a<|Ad 2 n)(hl:N s≤1000000)(hn:n<N T)(hT:N T≤60000)(hq:T.getD n []=q)(X:Hz):cP W0 90 [aP 0 0] (rdX s a (Br T) X) (S q) (rdX s (a+2) (Br T) X):=rdAt (wr:=.returned) (H:=rdX s a (Br T) X) (i:=0) Bf rfl rfl rfl<|textS hg h hl hn hT hq
def InT (T:List Bz)(ix:Bz→Nat)(q:Bz):Prop:=ix q<N T∧T.getD (ix q) []=q
theorem oAppS2 {s:St}{x y:AOpd}{l:List PSh}{q:PSh}{m jd vd:Nat}{c c':Option Nat}{H':Hz}(hm:N l=m)(hx:ev G s x=some (aH 2 jd 0 m c))(hy:ev G s y=some (aH 2 vd 0 1 c'))(hj:s.H[jd]?=some (C 44 (shC l) true))(hv:s.H[vd]?=some (C 44 (shL q) false))(hH:s.H.set jd (C 44 (shC<|l++[q]) true)=H'):
 aop G s (.append 44 2 40 x y)=some (.val (aH 2 jd 0 (m+1) none) H' [(((m+1)*40:Nat),C0),((m+1:Nat),C0)]):=by
 subst hH;subst hm;have hl:aA (N l*2) (N<|shC l)=true:=bY187;have hy':Cm 2 s.H (aH 2 vd 0 1 c')=some (shL q,1):=by simp only[Cm,hv];rfl
 have e:shC (l++[q])=shC l++shL q:=by simp[shC]
 rw[e];simp only[aop,hx,hy,P4,hy',G6,hj,hl,fY,cond_true,kC];rfl
def sP (shs:List PSh)(ix:Bz→Nat)(i:Nat):Nat:=1+N ((shs.take i).flatMap<|shB ix)
theorem MA {shs:List PSh}{ix:Bz→Nat}{i:Nat}(h:i<N shs):sP shs ix (i+1)=sP shs ix i+(4+(shs.getD i ps0).cs.length*4):=by rw[sP,K3 ps0 h,lAp,Wb,sP];omega
theorem Kx (x:PSh){n:Nat}:A8 n (shL x)=true:=by show cond (blw n<|aR 3<|x.cs.map pcV) true false=true;rw[show blw n (aR 3<|x.cs.map pcV)=true from B8 _];rfl
theorem shT2 {shs:List PSh}{i:Nat}(h:i<N shs):shs.take (i+1)=shs.take i++[shs.getD i ps0]:=by rw[lK h,eZ,gGe h,mJ]
theorem shT1 {shs:List PSh}(h:0<N shs):shs.take (0+1)=[shs.getD 0 ps0]:=shT2 h
abbrev cl3 (cs:List PCl):Nat→Nat→Nat→Nat→Nat→AVal:=g3 (λk=>J U<|(cs.getD k pc0).r) (λk=>J U<|(cs.getD k pc0).c) (λk=>S (cs.getD k pc0).s) (J U 0) (J U 0)<|S []
theorem KG {cs:List PCl}{i b c:Nat}:(λj g=>if j=i∧g=0 then J U ((cs.getD i pc0).r)else cl3 cs i b c j g)=cl3 cs (i+1) b c:=g3_0 (A:=λk=>J U<|(cs.getD k pc0).r)
theorem KE {cs:List PCl}{i a c:Nat}:(λj g=>if j=i∧g=1 then J U ((cs.getD i pc0).c)else cl3 cs a i c j g)=cl3 cs a (i+1) c:=g3_1 (B:=λk=>J U<|(cs.getD k pc0).c)
theorem JS {cs:List PCl}{i a b:Nat}:(λj g=>if j=i∧g=2 then S (cs.getD i pc0).s else cl3 cs a b i j g)=cl3 cs a b (i+1):=g3_2 (Cx:=λk=>S (cs.getD k pc0).s)
theorem cBl {cs:List PCl}{m n:Nat}(a b c:Nat):A8 m (c3 n<|cl3 cs a b c)=true:=g3_bl (λ_=>Z) (λ_=>Z) (λ_=>Z) Z Z Z
attribute [simp] cBl Kx
def shX (shs:List PSh):Nat→Hz
 |0=>[C 31 [aN,aN,aN,aN] false]|i+1=>[C 31 [aH 2 4 0 (N<|shs.take<|i+1) none,aN,aN,aN] false,C 44 (shL<|shs.getD 0 ps0) false,C 44 (shL<|shs.getD 0 ps0) false,C 44 (shC<|shs.take<|i+1) true]
def shS (s:Bz)(T:List Bz)(ix:Bz→Nat)(shs:List PSh)(i:Nat):St:=⟨.al [(0,aP 0 0),(1,aP 1 0),(9,J U<|N shs),(10,J U i)],rdX s (sP shs ix i) (Br T)<|shX shs i,72⟩
set_option maxHeartbeats 8000000 in
theorem sheetsR (hg:hGr W0 G){T:List Bz}{ix:Bz→Nat}{shs:List PSh}{s:Bz}(hs:s=Fj ix shs)(h0:0<N shs)(hl:N s≤1000000)(hT:N T≤60000)(hn:N shs<256)(hI:∀q∈Ej shs,InT T ix q)
 (h3:∀x∈shs,N x.cs<60000) (h4:∀x∈shs,∀c∈x.cs,c.r<256∧c.c<256):cP W0 61 [aP 0 0,aP 1 0] (rdX s 0 (Br T) [C 31 [aN,aN,aN,aN] false]) (aU []) (rdX s (N s) (Br T) [C 31 [aR 2<|shs.map psV,aN,aN,aN] false]):=by
 have hS:Seg s 0 (Ad 1 (N shs)++shs.flatMap (shB ix)):=⟨[],[],by rw[hs,List.append_nil];rfl,rfl⟩;have hF:=hS.r;rw[Ak,Nat.zero_add]at hF;have r0:=rcN (W0:=W0) (T:=T) hg hS.l hl V Y [C 31 [aN,aN,aN,aN] false];rw[Nat.zero_add]at r0;have shF:∀i,i<N shs→(∀X,cP W0 90 [aP 0 0] (rdX s (sP shs ix i) (Br T) X) (S (shs.getD i ps0).nm)<|rdX s (sP shs ix i+2) (Br T) X)∧
  (∀X,cP W0 58 [aP 0 0,J U (2:Nat)] (rdX s (sP shs ix i+2) (Br T) X) (J U<|(shs.getD i ps0).cs.length)<|rdX s (sP shs ix i+2+2) (Br T) X)∧
  (∀j,j<(shs.getD i ps0).cs.length→∀X,cP W0 58 [aP 0 0,J U (1:Nat)] (rdX s (sP shs ix i+(4+j)) (Br T) X) (J U<|((shs.getD i ps0).cs.getD j pc0).r)<|rdX s (sP shs ix i+(4+j)+1) (Br T) X)∧
  (∀j,j<(shs.getD i ps0).cs.length→∀X,cP W0 58 [aP 0 0,J U (1:Nat)] (rdX s (sP shs ix i+(4+(shs.getD i ps0).cs.length+j)) (Br T) X) (J U<|((shs.getD i ps0).cs.getD j pc0).c)<|rdX s (sP shs ix i+(4+(shs.getD i ps0).cs.length+j)+1) (Br T) X)∧
  (∀j,j<(shs.getD i ps0).cs.length→∀X,cP W0 90 [aP 0 0] (rdX s (sP shs ix i+(4+(shs.getD i ps0).cs.length+(shs.getD i ps0).cs.length+j*2)) (Br T) X) (S ((shs.getD i ps0).cs.getD j pc0).s)<|rdX s (sP shs ix i+(4+(shs.getD i ps0).cs.length+(shs.getD i ps0).cs.length+j*2)+2) (Br T) X):=λi hi=>by
  have h:=Ta ps0 hF hi;have hx:=C5 (d:=ps0) hi;have hc:=h3 _ hx;generalize hxx:shs.getD i ps0=x at h hx hc;have hP:1+N ((shs.take i).flatMap<|shB ix)=sP shs ix i:=rfl;rw[hP]at h;have hin:∀q∈shT x,InT T ix q:=λq hq=>hI q<|List.mem_flatMap.2 ⟨x,hx,hq⟩;have hc1:=h.r.r.l;have hc2:=h.r.r.r.l;have hc3:=h.r.r.r.r;have fl:∀(f:PCl→Bz) (w:Nat),(∀c,N (f c)=w)→∀l:List PCl,N (l.flatMap f)=N l*w:=λf w hf l=>by induction l with|nil=>simp|cons c l ih=>rw[List.flatMap_cons,lAp,hf,ih,lCo,Nat.add_mul];omega
  have l1:=fl (λc=>Ad 1 c.r) 1<|λc=>Ak _ _;have l2:=fl (λc=>Ad 1 c.c) 1<|λc=>Ak _ _;have l3:=fl (λc=>Ad 2<|ix c.s) 2<|λc=>Ak _ _;simp only[Ak,l1,l2,Nat.mul_one]at hc1 hc2 hc3;have n0:=hin x.nm<|List.mem_cons_self ..;have t2:=h.r.l;rw[Ak]at t2;refine⟨rcT hg h.l hl n0.1 hT n0.2,rcN hg t2 hl V (by show _<65536;omega),λj hj=>?_,λj hj=>?_,λj hj=>?_⟩;·have g:=Ta pc0 hc1 hj;rw[l1,List.length_take,Nat.min_eq_left Y,Nat.mul_one]at g;rw[show sP shs ix i+(4+j)=sP shs ix i+2+2+j by omega];exact rcN hg g hl V (by have:=(h4 x hx _<|C5 (d:=pc0) hj).1;omega)
  ·have g:=Ta pc0 hc2 hj;rw[l2,List.length_take,Nat.min_eq_left Y,Nat.mul_one]at g;rw[show sP shs ix i+(4+N x.cs+j)=sP shs ix i+2+2+N x.cs+j by omega];exact rcN hg g hl V (by have:=(h4 x hx _<|C5 (d:=pc0) hj).2;omega)
  ·have g:=Ta pc0 hc3 hj;rw[l3,List.length_take,Nat.min_eq_left Y]at g;rw[show sP shs ix i+(4+N x.cs+N x.cs+j*2)=sP shs ix i+2+2+N x.cs+N x.cs+j*2 by omega];have n1:=hin (x.cs.getD j pc0).s<|List.mem_cons_of_mem _<|List.mem_map_of_mem<|C5 (d:=pc0) hj;exact rcT hg g hl n1.1 hT n1.2
 have hend:N s=sP shs ix (N shs):=by rw[hs,Fj,lAp,Ak,sP,List.take_length]
 refine goW 61 72 2 ?_;refine Wm ?_;refine ExM.lpA (σ:=Nat) (shS s T ix shs) (λi=>i≤N shs) (λi=>N shs-i) 0 (fR 2) (Nat.zero_le _) ?_;intro i hi;have hi:i≤N shs:=hi;by_cases hlt:i<N shs
 ·cases i with
  |zero=>
   obtain⟨t1,t2,t3,t4,t5⟩:=shF 0 hlt;generalize hcs:(shs.getD 0 ps0).cs=cs at t2 t3 t4 t5;have hcl:=h3 _<|C5 (d:=ps0) hlt;rw[hcs]at hcl;unfold shS shX;refine Wm ?_;refine mS (v:=aH 3 3 0 (N cs)<|some<|N cs) (by show some (ARes.val (aH 3 3 0 (N cs)<|some<|N cs) (_++[C 81 (Iq [J U 0,J U 0,S []]<|N cs*3) false]) _)=_;rw[g3_z (A:=λk=>J U<|(cs.getD k pc0).r) (B:=λk=>J U<|(cs.getD k pc0).c) (Cx:=λk=>S (cs.getD k pc0).s)]) ?_ (hs:=by simp only[Ah,and_true];omega);refine Wm ?_;refine ExM.lpC (λj=>⟨.al [(0,aP 0 0),(1,aP 1 0),(4,aP 2 0),(21,J U<|N cs),(22,J U j),(9,J U<|N shs),(10,J U (0:Nat))],rdX s (sP shs ix 0+(4+j)) (Br T)<|[C 31 [aN,aN,aN,aN] false]++[C 44 [S (shs.getD 0 ps0).nm,aH 3 3 0 (N cs)<|some<|N cs] false,C 81 (c3 (N cs)<|cl3 cs j 0 0) false],72⟩) (N cs) (B6 4 (frC (frO<|flC fvS<|flC (I7 Y)<|flC (Aq Bf) flN)<|frC (frS Z)<|frC (frO<|flC fvS<|flC (D3 V) flN)<|frC (frS<|cBl _ _ _) frN)<|fzC Z (Af V)<|fzC Z (Af V)<|fzC Z (Af (id:=2) (off:=0) V)<|fI<|fI<|fI<|fI fzN) (λj hjl=>?_) ?_ ?_;·refine Wm ?_;refine ExM.drawC hg ?_;refine Wc ?_;refine jC (t3 j hjl _) ?_;refine jV (S8 Z Z Z) Z ?_;refine Wc ?_;refine jS (BM Z Z Z hjl V Z Z Z) ?_;refine Wc ?_;refine Wm ?_;exact lcN<|B6 4 (frC (frO<|flC fvS<|flC (I7 Y)<|flC (Aq Bf) flN)<|frC (frS Z)<|frC (frO<|flC fvS<|flC (D3 V) flN)<|frC (by rw[←KG];exact frS (by rw[KG];exact cBl _ _ _)) frN)<|fzC Z (Af V)<|fzC Z (Af V)<|fzC Z (Af (id:=2) (off:=0) V)<|fI<|fI<|fI<|fI fzN
   ·refine Wm ?_;exact lcE<|fR 4
   refine Wm ?_;refine ExM.lpC (λj=>⟨.al [(0,aP 0 0),(1,aP 1 0),(4,aP 2 0),(35,J U<|N cs),(36,J U j),(9,J U<|N shs),(10,J U (0:Nat))],rdX s (sP shs ix 0+(4+N cs+j)) (Br T)<|[C 31 [aN,aN,aN,aN] false]++[C 44 [S (shs.getD 0 ps0).nm,aH 3 3 0 (N cs)<|some<|N cs] false,C 81 (c3 (N cs)<|cl3 cs (N cs) j 0) false],72⟩) (N cs) (fR 4) (λj hjl=>?_) ?_ ?_;·refine Wm ?_;refine ExM.drawC hg ?_;refine Wc ?_;refine jC (t4 j hjl _) ?_;refine jV (S8 Z Z Z) Z ?_;refine Wc ?_;refine jS (BM Z Z Z hjl V Z Z Z) ?_;refine Wc ?_;refine Wm ?_;exact lcN<|B6 4 (frC (frO<|flC fvS<|flC (I7 Y)<|flC (Aq Bf) flN)<|frC (frS Z)<|frC (frO<|flC fvS<|flC (D3 V) flN)<|frC (by rw[←KE];exact frS (by rw[KE];exact cBl _ _ _)) frN)<|fzC Z (Af V)<|fzC Z (Af V)<|fzC Z (Af (id:=2) (off:=0) V)<|fI<|fI<|fI<|fI fzN
   ·refine Wm ?_;exact lcE<|fR 4
   refine Wm ?_;refine ExM.lpC (λj=>⟨.al [(0,aP 0 0),(1,aP 1 0),(4,aP 2 0),(49,J U<|N cs),(50,J U j),(9,J U<|N shs),(10,J U (0:Nat))],rdX s (sP shs ix 0+(4+N cs+N cs+j*2)) (Br T)<|[C 31 [aN,aN,aN,aN] false]++[C 44 [S (shs.getD 0 ps0).nm,aH 3 3 0 (N cs)<|some<|N cs] false,C 81 (c3 (N cs)<|cl3 cs (N cs) (N cs) j) false],72⟩) (N cs) (fR 4) (λj hjl=>?_) ?_ ?_;·refine Wm ?_;refine ExM.drawC hg ?_;refine Wc ?_;refine jC (t5 j hjl _) ?_;refine jV (S8 Z Z Z) Z ?_;refine Wc ?_;refine jS (BM Z Z Z hjl V Z Z Z) ?_;refine Wc ?_;refine Wm ?_;exact lcN<|B6 4 (frC (frO<|flC fvS<|flC (I7 Y)<|flC (Aq Bf) flN)<|frC (frS Z)<|frC (frO<|flC fvS<|flC (D3 V) flN)<|frC (by rw[←JS];exact frS (by rw[JS];exact cBl _ _ _)) frN)<|fzC Z (Af V)<|fzC Z (Af V)<|fzC Z (Af (id:=2) (off:=0) V)<|fI<|fI<|fI<|fI fzN
   ·refine Wm ?_;exact lcE<|fR 4
   refine Wm ?_;refine ExM.fh (s1:=⟨.al [(0,aP 0 0),(1,aP 1 0),(4,aP 2 0),(9,J U<|N shs),(10,J U (0:Nat))],rdX s (sP shs ix 0+(4+N cs+N cs+N cs*2)) (Br T)<|[C 31 [aN,aN,aN,aN] false]++[C 44 [S (shs.getD 0 ps0).nm,aR 3<|cs.map pcV] false],72⟩) ?_ ?_;·exact(B6 3 (frC (frO<|flC fvS<|flC fvI<|flC (Aq Bf) flN)<|frC (frS Z)<|frC (frO<|flC fvS<|flC (Sl V V Z Y9.symm (g3_f (d:=pc0) λk _=>Z)<|B8 _) flN) frN)<|fzC Z (Af V)<|fzC Z (Af V)<|fzC Z (Af (id:=2) (off:=0) V)<|fI<|fI fzN)
   refine ExM.drawC hg ?_;refine Wc ?_;refine jE (v:=aH 2 3 0 1<|some 1) Z ?_;refine jE (v:=aH 2 4 0 1 none) Z ?_;refine Wc ?_;refine Wm ?_;exact haN 1 hlt Y<|B6 5 (frC (frO<|flC fvS<|flC (I7 (by rw[MA hlt,hcs];omega))<|flC (Aq Bf) flN)<|frC (frO<|flC (Gy V (by simp only[List.length_take];omega))<|flC Am<|flC Am<|flC Am flN)<|frC (by rw[←hcs];exact frS<|Kx _)<|frC (by rw[←hcs];exact frS<|Kx _)<|frC (by rw[shT1 hlt,hcs.symm];exact frS<|B9 [shs.getD 0 ps0]) frN)<|fzC Z (Af V)<|fzC Z (Af V)<|fI<|fI fzN
  |succ i=>
   obtain⟨t1,t2,t3,t4,t5⟩:=shF (i+1) hlt;generalize hcs:(shs.getD (i+1) ps0).cs=cs at t2 t3 t4 t5;have hcl:=h3 _<|C5 (d:=ps0) hlt;rw[hcs]at hcl;unfold shS shX;refine Wm ?_;refine mS (v:=aH 3 6 0 (N cs)<|some<|N cs) (by show some (ARes.val (aH 3 6 0 (N cs)<|some<|N cs) (_++[C 81 (Iq [J U 0,J U 0,S []]<|N cs*3) false]) _)=_;rw[g3_z (A:=λk=>J U<|(cs.getD k pc0).r) (B:=λk=>J U<|(cs.getD k pc0).c) (Cx:=λk=>S (cs.getD k pc0).s)]) ?_ (hs:=by simp only[Ah,and_true];omega);refine Wm ?_;refine ExM.lpC (λj=>⟨.al [(0,aP 0 0),(1,aP 1 0),(4,aP 5 0),(21,J U<|N cs),(22,J U j),(9,J U<|N shs),(10,J U (i+1:Nat))],rdX s (sP shs ix (i+1)+(4+j)) (Br T)<|[C 31 [aH 2 4 0 (N<|shs.take<|i+1) none,aN,aN,aN] false,C 44 (shL<|shs.getD 0 ps0) false,C 44 (shL<|shs.getD 0 ps0) false,C 44 (shC<|shs.take<|i+1) true]++[C 44 [S (shs.getD (i+1) ps0).nm,aH 3 6 0 (N cs)<|some<|N cs] false,C 81 (c3 (N cs)<|cl3 cs j 0 0) false],72⟩) (N cs) (B6 7 (frC (frO<|flC fvS<|flC (I7 Y)<|flC (Aq Bf) flN)<|frC (frO<|flC (D3 V)<|flC Am<|flC Am<|flC Am flN)<|frC (frS<|Kx _)<|frC (frS<|Kx _)<|frC (frS<|B9 _)<|frC (frO<|flC fvS<|flC (D3 V) flN)<|frC (frS<|cBl _ _ _) frN)<|fzC Z (Af V)<|fzC Z (Af V)<|fzC Z (Af (id:=5) (off:=0) V)<|fI<|fI<|fI<|fI fzN) (λj hjl=>?_) ?_ ?_;·refine Wm ?_;refine ExM.drawC hg ?_;refine Wc ?_;refine jC (t3 j hjl _) ?_;refine jV (S8 Z Z Z) Z ?_;refine Wc ?_;refine jS (BM Z Z Z hjl V Z Z Z) ?_;refine Wc ?_;refine Wm ?_;exact lcN<|B6 7 (frC (frO<|flC fvS<|flC (I7 Y)<|flC (Aq Bf) flN)<|frC (frO<|flC (D3 V)<|flC Am<|flC Am<|flC Am flN)<|frC (frS<|Kx _)<|frC (frS<|Kx _)<|frC (frS<|B9 _)<|frC (frO<|flC fvS<|flC (D3 V) flN)<|frC (by rw[←KG];exact frS (by rw[KG];exact cBl _ _ _)) frN)<|fzC Z (Af V)<|fzC Z (Af V)<|fzC Z (Af (id:=5) (off:=0) V)<|fI<|fI<|fI<|fI fzN
   ·refine Wm ?_;exact lcE<|fR 7
   refine Wm ?_;refine ExM.lpC (λj=>⟨.al [(0,aP 0 0),(1,aP 1 0),(4,aP 5 0),(35,J U<|N cs),(36,J U j),(9,J U<|N shs),(10,J U (i+1:Nat))],rdX s (sP shs ix (i+1)+(4+N cs+j)) (Br T)<|[C 31 [aH 2 4 0 (N<|shs.take<|i+1) none,aN,aN,aN] false,C 44 (shL<|shs.getD 0 ps0) false,C 44 (shL<|shs.getD 0 ps0) false,C 44 (shC<|shs.take<|i+1) true]++[C 44 [S (shs.getD (i+1) ps0).nm,aH 3 6 0 (N cs)<|some<|N cs] false,C 81 (c3 (N cs)<|cl3 cs (N cs) j 0) false],72⟩) (N cs) (fR 7) (λj hjl=>?_) ?_ ?_;·refine Wm ?_;refine ExM.drawC hg ?_;refine Wc ?_;refine jC (t4 j hjl _) ?_;refine jV (S8 Z Z Z) Z ?_;refine Wc ?_;refine jS (BM Z Z Z hjl V Z Z Z) ?_;refine Wc ?_;refine Wm ?_;exact lcN<|B6 7 (frC (frO<|flC fvS<|flC (I7 Y)<|flC (Aq Bf) flN)<|frC (frO<|flC (D3 V)<|flC Am<|flC Am<|flC Am flN)<|frC (frS<|Kx _)<|frC (frS<|Kx _)<|frC (frS<|B9 _)<|frC (frO<|flC fvS<|flC (D3 V) flN)<|frC (by rw[←KE];exact frS (by rw[KE];exact cBl _ _ _)) frN)<|fzC Z (Af V)<|fzC Z (Af V)<|fzC Z (Af (id:=5) (off:=0) V)<|fI<|fI<|fI<|fI fzN
   ·refine Wm ?_;exact lcE<|fR 7
   refine Wm ?_;refine ExM.lpC (λj=>⟨.al [(0,aP 0 0),(1,aP 1 0),(4,aP 5 0),(49,J U<|N cs),(50,J U j),(9,J U<|N shs),(10,J U (i+1:Nat))],rdX s (sP shs ix (i+1)+(4+N cs+N cs+j*2)) (Br T)<|[C 31 [aH 2 4 0 (N<|shs.take<|i+1) none,aN,aN,aN] false,C 44 (shL<|shs.getD 0 ps0) false,C 44 (shL<|shs.getD 0 ps0) false,C 44 (shC<|shs.take<|i+1) true]++[C 44 [S (shs.getD (i+1) ps0).nm,aH 3 6 0 (N cs)<|some<|N cs] false,C 81 (c3 (N cs)<|cl3 cs (N cs) (N cs) j) false],72⟩) (N cs) (fR 7) (λj hjl=>?_) ?_ ?_;·refine Wm ?_;refine ExM.drawC hg ?_;refine Wc ?_;refine jC (t5 j hjl _) ?_;refine jV (S8 Z Z Z) Z ?_;refine Wc ?_;refine jS (BM Z Z Z hjl V Z Z Z) ?_;refine Wc ?_;refine Wm ?_;exact lcN<|B6 7 (frC (frO<|flC fvS<|flC (I7 Y)<|flC (Aq Bf) flN)<|frC (frO<|flC (D3 V)<|flC Am<|flC Am<|flC Am flN)<|frC (frS<|Kx _)<|frC (frS<|Kx _)<|frC (frS<|B9 _)<|frC (frO<|flC fvS<|flC (D3 V) flN)<|frC (by rw[←JS];exact frS (by rw[JS];exact cBl _ _ _)) frN)<|fzC Z (Af V)<|fzC Z (Af V)<|fzC Z (Af (id:=5) (off:=0) V)<|fI<|fI<|fI<|fI fzN
   ·refine Wm ?_;exact lcE<|fR 7
   refine Wm ?_;refine ExM.fh (s1:=⟨.al [(0,aP 0 0),(1,aP 1 0),(4,aP 5 0),(9,J U<|N shs),(10,J U (i+1:Nat))],rdX s (sP shs ix (i+1)+(4+N cs+N cs+N cs*2)) (Br T)<|[C 31 [aH 2 4 0 (N<|shs.take<|i+1) none,aN,aN,aN] false,C 44 (shL<|shs.getD 0 ps0) false,C 44 (shL<|shs.getD 0 ps0) false,C 44 (shC<|shs.take<|i+1) true]++[C 44 [S (shs.getD (i+1) ps0).nm,aR 3<|cs.map pcV] false],72⟩) ?_ ?_;·exact(B6 6 (frC (frO<|flC fvS<|flC fvI<|flC (Aq Bf) flN)<|frC (frO<|flC (D3 V)<|flC Am<|flC Am<|flC Am flN)<|frC (frS<|Kx _)<|frC (frS<|Kx _)<|frC (frS<|B9 _)<|frC (frO<|flC fvS<|flC (Sl V V Z Y9.symm (g3_f (d:=pc0) λk _=>Z)<|B8 _) flN) frN)<|fzC Z (Af V)<|fzC Z (Af V)<|fzC Z (Af (id:=5) (off:=0) V)<|fI<|fI fzN)
   refine ExM.drawC hg ?_;refine Wc ?_;refine jE (v:=aH 2 6 0 1<|some 1) Z ?_;refine jE (oAppS2 (l:=shs.take<|i+1) (q:=⟨(shs.getD (i+1) ps0).nm,cs⟩) Z Z Z Z Z Z) ?_ (hs:=by simp only[Ah,and_true,C0,List.length_take];omega);refine Wc ?_;refine Wm ?_;exact haN (i+2) hlt Y<|B6 5 (frC (frO<|flC fvS<|flC (I7 (by rw[MA hlt,hcs];omega))<|flC (Aq Bf) flN)<|frC (frO<|flC (Gy V (by simp only[List.length_take];omega))<|flC Am<|flC Am<|flC Am flN)<|frC (frS<|Kx _)<|frC (frS<|Kx _)<|frC (by rw[shT2 hlt,←hcs];exact frS<|B9 _) frN)<|fzC Z (Af V)<|fzC Z (Af V)<|fI<|fI fzN
 ·obtain⟨n,hn⟩:∃n,N shs=n+1:=⟨N shs-1,Y⟩;have he:i=n+1:=Y;subst he;unfold shS;have ht:shs.take (n+1)=shs:=by rw[←hn,List.take_length]
  refine ExM.fh (s1:=⟨.al [(0,aP 0 0),(1,aP 1 0),(9,J U<|N shs),(10,J U<|N shs)],rdX s (N s) (Br T) [C 31 [aR 2<|shs.map psV,aN,aN,aN] false],72⟩) (B6 2 (frC (frO<|flC fvS<|flC (I7 (by rw[hend,hn]))<|flC (Aq Bf) flN)<|frC (frO<|flC (Sl V V Z (by rw[Is]) (by rw[ht];exact Um shs)<|Av shs)<|flC Am<|flC Am<|flC Am flN) frN)<|fzC Z (Af V)<|fzC Z (Af V)<|fI<|fzC Z (I7 (by rw[hn])) fzN) ?_;refine Wm ?_;refine haE<|kJ ?_;exact pS
end Go.Abs
namespace Go.Abs
open Go.Proofs Go.RowKit
set_option maxRecDepth 100000
variable {ss : List Bz}
theorem EJ {k:Bz}:∀{es:List (Bz×Int)}{n:Nat}{p:Nat×Int},Qh es k n=some p→∃m,p.1=n+m∧(es.map (·.1))[m]?=some k
 | [],_,_,h=>Hq
 |(q,v)::r,n,p,h=>by
  simp only[Qh]at h;by_cases hk:k=q;·subst hk;simp at h;subst h;exact⟨0,Z,Z⟩
  ·simp only[hk,decide_false,cond_false]at h;obtain⟨m,h1,h2⟩:=EJ h;exact⟨m+1,Y,h2⟩
theorem AB {es:List (Bz×Int)}{k q:Bz}{v:Int}(h:q∈es.map (·.1)∨q=k):q∈(Ku es k v).map (·.1):=by
 unfold Ku;cases hf:Qh es k 0 with
 |none=>
  rcases h with h|rfl;·rw[List.map_append];exact eG.2<|.inl h
  ·rw[List.map_append];exact eG.2<|.inr B4
 |some p=>
  obtain⟨m,h1,h2⟩:=EJ hf;obtain⟨i,w⟩:=p;have hi:i=m:=by have:i=0+m:=h1;omega
  subst hi;have e:(es.set i (k,v)).map (·.1)=es.map (·.1):=by
   rw[List.map_set];apply mR;intro j;by_cases hj:i=j;·subst hj;have hl:=(aC.1 h2).1;rw[List.getElem?_set_self hl,h2]
   ·rw[List.getElem?_set_ne hj]
  show q∈(es.set i (k,v)).map (·.1);rw[e];rcases h with h|rfl;·exact h
  ·exact mGe h2
theorem getE_in {k:Bz}:∀{es:List (Bz×Int)},k∈es.map (·.1)→(k,Ih es k)∈es:=λ{es} h=>by
 rw[JI];generalize (0:Nat)=n;induction es generalizing n with
 |nil=>cases h
 |cons p r ih=>
  obtain⟨q,v⟩:=p;simp only[Qh];by_cases hk:k=q;·subst hk;simp
  ·simp only[hk,decide_false,cond_false];rw[jZ,eS]at h;exact fF _<|ih (h.resolve_left hk) _
theorem OT :∀{i:Nat}{p:Bz×Int},p∈esN ss i→∃j:Nat,j<i∧p=(ss.getD j [],(j:Int))
 |0,_,h=>Hq
 |i+1,p,h=>by
  rcases EO h with h|rfl;·obtain⟨j,hj,e⟩:=OT h;exact⟨j,Y,e⟩
  ·exact⟨i,Nat.lt_succ_self i,Z⟩
theorem EG :∀{i j:Nat},j<i→ss.getD j []∈(esN ss i).map (·.1)
 |0,_,h=>Y
 |i+1,j,h=>by
  by_cases hj:j=i;·subst hj;exact AB<|.inr rfl
  ·exact AB<|.inl<|EG Y
theorem inT_of {q:Bz}(h:q∈ss):InT ss (ixN ss) q:=by
 obtain⟨j,hj⟩:=eX h;have hl:=(aC.1 hj).1;have h1:=EG (ss:=ss) hl;rw[eZ,hj,mJ]at h1;obtain⟨i,hi,e⟩:=OT<|getE_in h1;injection e with e1 e2;have:ixN ss q=i:=by rw[ixN,e2];rfl
 exact⟨by rw[this];exact hi,by rw[this];exact e1.symm⟩
theorem GH {L:List Bz}{s:Bz}(h:s∈L):s∈Dc L:=by
 have h1:s∈Qk L:=(List.mergeSort_perm L _).mem_iff.2 h;generalize hl:Qk L=l at h1;have key:∀i:Nat,l[i]?=some s→∃j,l[j]?=some s∧(j=0∨l[j-1]?≠some s):=λi=>by
  induction i with
  |zero=>exact λh=>⟨0,h,.inl rfl⟩
  |succ i ih=>
   intro h;by_cases h2:l[i]?=some s;·exact ih h2
   ·exact⟨i+1,h,.inr h2⟩
 obtain⟨i,hi⟩:=eX h1;obtain⟨j,hj,hk⟩:=key i hi;have hjl:=(aC.1 hj).1;have ga:∀i:Nat,i<N l→l.toArray[i]! =l.getD i []:=λi hi=>by rw[getElem!_pos l.toArray i (by simpa using hi),eZ,gGe hi];simp
 have hs:l.getD j []=s:=by rw[eZ,hj];rfl
 simp only[Dc,hl,gI,nJ,List.mem_filter,List.mem_range];refine⟨j,⟨hjl,?_⟩,by rw[ga j hjl];exact hs⟩;unfold Lib.keeps;rcases hk with rfl|hk;·simp
 ·have:l.getD (j-1) []≠s:=λe=>hk (by rw[gGe Y,←e,eZ,gGe Y,mJ]);rw[ga j hjl,ga (j-1) Y,hs];exact decide_eq_true<|.inr<|Ne.symm this
end Go.Abs
namespace Go.Abs
open Go.Proofs Go.RowKit
set_option maxRecDepth 100000
variable {W0 : World} {G : List (Nat × AVal)}
abbrev nm3 (ns:List PNm):Nat→Nat→Nat→Nat→Nat→AVal:=g3 (λk=>S (ns.getD k pn0).n) (λk=>J U (ns.getD k pn0).a) (λk=>S (ns.getD k pn0).f) (S []) (J U 0)<|S []
theorem nm3_0 {ns:List PNm}{i b c:Nat}:(λj g=>if j=i∧g=0 then S (ns.getD i pn0).n else nm3 ns i b c j g)=nm3 ns (i+1) b c:=g3_0 (A:=λk=>S (ns.getD k pn0).n)
theorem nm3_1 {ns:List PNm}{i a c:Nat}:(λj g=>if j=i∧g=1 then J U (ns.getD i pn0).a else nm3 ns a i c j g)=nm3 ns a (i+1) c:=g3_1 (B:=λk=>J U (ns.getD k pn0).a)
theorem nm3_2 {ns:List PNm}{i a b:Nat}:(λj g=>if j=i∧g=2 then S (ns.getD i pn0).f else nm3 ns a b i j g)=nm3 ns a b (i+1):=g3_2 (Cx:=λk=>S (ns.getD k pn0).f)
theorem nBl {ns:List PNm}{m n:Nat}(a b c:Nat):A8 m (c3 n<|nm3 ns a b c)=true:=g3_bl (λ_=>Z) (λ_=>Z) (λ_=>Z) Z Z Z
attribute [simp] nBl
theorem MB {α:Type}{f:α→Bz}{w:Nat}(h:∀c,N (f c)=w):∀l:List α,N (l.flatMap f)=N l*w
 | []=>B4|c::l=>by rw[lA,lAp,h,MB h l,lCo,bE];omega
set_option maxHeartbeats 8000000 in
theorem namesR (hg:hGr W0 G){T:List Bz}{ix:Bz→Nat}{ns:List PNm}{s:Bz}{Sx:List AVal}(hS0:A8 0 Sx=true)(hs:s=W2 ix (N ns) ns)(hl:N s≤1000000)(hT:N T≤60000)(hn:N ns<256)(hI:∀p∈ns,InT T ix p.n∧InT T ix p.f)
 (ha:∀p∈ns,-1≤p.a∧p.a<255):cP W0 62 [aP 0 0,aP 1 0] (rdX s 0 (Br T) [C 31 [aR 2 Sx,aN,aN,aN] false]) (aU []) (rdX s (N s) (Br T) [C 31 [aR 2 Sx,aR 3<|ns.map nmV,aN,aN] false]):=by
 have hS:Seg s 0 (Ad 1 (N ns)++(ns.flatMap (nmA ix)++(ns.flatMap nmB++ns.flatMap (nmC ix)))):=⟨[],[],by rw[hs,List.append_nil,W2];simp only[List.append_assoc];rfl,rfl⟩;have f1:=MB (f:=nmA ix) (w:=2) W9;have f2:=MB (f:=nmB) (w:=1) Wj;have f3:=MB (f:=nmC ix) (w:=2) CD;have hA:=hS.r.l;have hB:=hS.r.r.l;have hC:=hS.r.r.r;have hend:1+N ns*2+N ns+N ns*2=N s:=by rw[hs,W2];simp only[lAp,Ak,f1,f2,f3,Nat.mul_one]
 simp only[Ak,f1,f2,Nat.mul_one,Nat.zero_add]at hA hB hC;have r0:=rcN (W0:=W0) (T:=T) hg hS.l hl V Y [C 31 [aR 2 Sx,aN,aN,aN] false];rw[Nat.zero_add]at r0;have t1:∀j,j<N ns→∀X,cP W0 90 [aP 0 0] (rdX s (1+j*2) (Br T) X) (S (ns.getD j pn0).n) (rdX s (1+j*2+2) (Br T) X):=λj hj=>by have g:=Ta pn0 hA hj;rw[f1,List.length_take,Nat.min_eq_left Y,nmA,txB,List.flatMap_cons]at g;have n1:=(hI _<|C5 (d:=pn0) hj).1;exact rcT hg g.l hl n1.1 hT n1.2
 have t2:∀j,j<N ns→∀X,cP W0 58 [aP 0 0,J U (1:Nat)] (rdX s (1+N ns*2+j) (Br T) X) (J U<|((ns.getD j pn0).a+1).toNat) (rdX s (1+N ns*2+j+1) (Br T) X):=λj hj=>by have g:=Ta pn0 hB hj;rw[f2,List.length_take,Nat.min_eq_left Y,nmB,Dz,Nat.mul_one,List.flatMap_cons]at g;have n1:=ha _<|C5 (d:=pn0) hj;exact rcN hg g.l hl V Y
 have t3:∀j,j<N ns→∀X,cP W0 90 [aP 0 0] (rdX s (1+N ns*2+N ns+j*2) (Br T) X) (S (ns.getD j pn0).f) (rdX s (1+N ns*2+N ns+j*2+2) (Br T) X):=λj hj=>by have g:=Ta pn0 hC hj;rw[f3,List.length_take,Nat.min_eq_left Y,nmC,txB,List.flatMap_cons]at g;have n1:=(hI _<|C5 (d:=pn0) hj).2;exact rcT hg g.l hl n1.1 hT n1.2
 refine goW 62 68 2 ?_;refine Wm ?_;refine mS (v:=aH 3 2 0 (N ns)<|some<|N ns) (by show some (ARes.val (aH 3 2 0 (N ns)<|some<|N ns) (_++[C 48 (Iq [S [],J U 0,S []]<|N ns*3) false]) _)=_;rw[g3_z (A:=λk=>S (ns.getD k pn0).n) (B:=λk=>J U (ns.getD k pn0).a) (Cx:=λk=>S (ns.getD k pn0).f)]) ?_ (hs:=by simp only[Ah,and_true];omega);refine Wm ?_;refine ExM.lpC (λj=>⟨.al [(0,aP 0 0),(1,aP 1 0),(17,J U<|N ns),(18,J U j)],rdX s (1+j*2) (Br T) [C 31 [aR 2 Sx,aH 3 2 0 (N ns)<|some<|N ns,aN,aN] false,C 48 (c3 (N ns)<|nm3 ns j 0 0) false],68⟩) (N ns) ?_ (λj hjl=>?_) ?_ ?_;·exact B6 3 (frC (frO<|flC fvS<|flC (I7 Y)<|flC (Aq Bf) flN)<|frC (frO<|flC (Aq (v:=aR 2 Sx) hS0)<|flC (D3 V)<|flC Am<|flC Am flN)<|frC (frS<|nBl _ _ _) frN)<|fzC Z (Af (id:=0) (off:=0) V)<|fzC Z (Af (id:=1) (off:=0) V)<|fI<|fI fzN
 ·refine Wm ?_;refine ExM.drawC hg ?_;refine Wc ?_;refine jC (t1 j hjl _) ?_;refine jV (S8 Z Z Z) Z ?_;refine Wc ?_;refine jS (BM Z Z Z hjl V Z Z Z) ?_;refine Wc ?_;refine Wm ?_;exact lcN<|B6 3 (frC (frO<|flC fvS<|flC (I7 Y)<|flC (Aq Bf) flN)<|frC (frO<|flC (Aq (v:=aR 2 Sx) hS0)<|flC (D3 V)<|flC Am<|flC Am flN)<|frC (by rw[←nm3_0];exact frS (by rw[nm3_0];exact nBl _ _ _)) frN)<|fzC Z (Af (id:=0) (off:=0) V)<|fzC Z (Af (id:=1) (off:=0) V)<|fI<|fI fzN
 ·refine Wm ?_;exact lcE<|fR 3
 refine Wm ?_;refine ExM.lpC (λj=>⟨.al [(0,aP 0 0),(1,aP 1 0),(35,J U<|N ns),(36,J U j)],rdX s (1+N ns*2+j) (Br T) [C 31 [aR 2 Sx,aH 3 2 0 (N ns)<|some<|N ns,aN,aN] false,C 48 (c3 (N ns)<|nm3 ns (N ns) j 0) false],68⟩) (N ns) ?_ (λj hjl=>?_) ?_ ?_;·exact fR 3
 ·refine Wm ?_;refine ExM.drawC hg ?_;refine Wc ?_;refine jC (t2 j hjl _) ?_;refine jV (v:=J U (ns.getD j pn0).a) Z (Bw (by have:=ha _<|C5 (d:=pn0) hjl;omega) (by have:=ha _<|C5 (d:=pn0) hjl;omega) (by have:=ha _<|C5 (d:=pn0) hjl;omega)) ?_;refine jV (S8 Z Z Z) Z ?_;refine Wc ?_;refine jS (BM Z Z Z hjl V Z Z Z) ?_;refine Wc ?_;refine Wm ?_;exact lcN<|B6 3 (frC (frO<|flC fvS<|flC (I7 Y)<|flC (Aq Bf) flN)<|frC (frO<|flC (Aq (v:=aR 2 Sx) hS0)<|flC (D3 V)<|flC Am<|flC Am flN)<|frC (by rw[←nm3_1];exact frS (by rw[nm3_1];exact nBl _ _ _)) frN)<|fzC Z (Af (id:=0) (off:=0) V)<|fzC Z (Af (id:=1) (off:=0) V)<|fI<|fI fzN
 ·refine Wm ?_;exact lcE<|fR 3
 refine Wm ?_;refine ExM.lpA (σ:=Nat) (λj=>⟨.al [(0,aP 0 0),(1,aP 1 0),(54,J U<|N ns),(55,J U j)],rdX s (1+N ns*2+N ns+j*2) (Br T) [C 31 [aR 2 Sx,aH 3 2 0 (N ns)<|some<|N ns,aN,aN] false,C 48 (c3 (N ns)<|nm3 ns (N ns) (N ns) j) false],68⟩) (λj=>j≤N ns) (λj=>N ns-j) 0 ?_ (Nat.zero_le _) ?_;·exact fR 3
 intro j hj;have hj:j≤N ns:=hj;by_cases hjl:j<N ns;·refine Wm ?_;refine ExM.drawC hg ?_;refine Wc ?_;refine jC (t3 j hjl _) ?_;refine jV (S8 Z Z Z) Z ?_;refine Wc ?_;refine jS (BM Z Z Z hjl V Z Z Z) ?_;refine Wc ?_;refine Wm ?_;exact haN (j+1) hjl Y<|B6 3 (frC (frO<|flC fvS<|flC (I7 Y)<|flC (Aq Bf) flN)<|frC (frO<|flC (Aq (v:=aR 2 Sx) hS0)<|flC (D3 V)<|flC Am<|flC Am flN)<|frC (by rw[←nm3_2];exact frS (by rw[nm3_2];exact nBl _ _ _)) frN)<|fzC Z (Af (id:=0) (off:=0) V)<|fzC Z (Af (id:=1) (off:=0) V)<|fI<|fI fzN
 ·have he:j=N ns:=by omega
  subst he;refine ExM.fh (s1:=⟨.al [(0,aP 0 0),(1,aP 1 0),(54,J U<|N ns),(55,J U<|N ns)],rdX s (N s) (Br T) [C 31 [aR 2 Sx,aR 3<|ns.map nmV,aN,aN] false],68⟩) ?_ ?_;·exact B6 2 (frC (frO<|flC fvS<|flC (I7 (by rw[hend]))<|flC (Aq Bf) flN)<|frC (frO<|flC (Aq (v:=aR 2 Sx) hS0)<|flC (Sl V V Z Y9.symm (g3_f (d:=pn0) λk _=>Z)<|Ed _)<|flC Am<|flC Am flN) frN)<|fzC Z (Af (id:=0) (off:=0) V)<|fzC Z (Af (id:=1) (off:=0) V)<|fI<|fI fzN
  refine Wm ?_;refine haE<|kJ ?_;exact pS
def tb0 (x:AVal):List AVal:=[S [116,97,98],J U 0,J U 9,J U 1,J U 2,x]
set_option maxHeartbeats 8000000 in
theorem tablesR (hg:hGr W0 G){T:List Bz}{ix:Bz→Nat}(b:Bool){s:Bz}{K0 K1:AVal}(h0:blw 0 K0=true)(h1:blw 0 K1=true)(hs:s=EW ix b)(hl:N s≤1000000)(hT:N T≤60000)(hI:∀q∈K4 b,InT T ix q):
 cP W0 63 [aP 0 0,aP 1 0] (rdX s 0 (Br T) [C 31 [K0,K1,aN,aN] false]) (aU []) (rdX s (N s) (Br T) [C 31 [K0,K1,aR 6<|tlT b,aN] false]):=by
 cases b with
 |false=>
  have r0:=rcN (W0:=W0) (T:=T) (s:=s) (a:=0) (w:=1) (n:=0) hg ⟨[],[],by rw[hs];rfl,rfl⟩ hl V V [C 31 [K0,K1,aN,aN] false];have e:N s=1:=by rw[hs];rfl
  refine goW 63 43 2 ?_;refine Wm ?_;refine ExM.un 1 ?_;refine ExM.fh (s1:=⟨.al [(6,J U (0:Nat)),(7,J U (0:Nat))],rdX s (N s) (Br T) [C 31 [K0,K1,aR 6 [],aN] false],43⟩) ?_ ?_;·exact fR 2
  refine Wm ?_;refine uE<|kJ ?_;exact pS
 |true=>
  have e:s=Ad 1 1++(Ad 2 (ix [116,97,98])++(Ad 1 0++(Ad 1 9++(Ad 1 1++(Ad 1 2++(Ad 1 2++(Ad 2 (ix [120])++Ad 2 (ix [121,32,121])))))))):=by rw[hs];simp[EW,tlT,txB,Dz]
  have i1:=hI [116,97,98] (by simp[K4]);have i2:=hI [120] (by simp[K4]);have i3:=hI [121,32,121] (by simp[K4]);have hS:Seg s 0 (Ad 1 1++(Ad 2 (ix [116,97,98])++(Ad 1 0++(Ad 1 9++(Ad 1 1++(Ad 1 2++(Ad 1 2++(Ad 2 (ix [120])++Ad 2 (ix [121,32,121]))))))))):=⟨[],[],by rw[List.append_nil];exact e,rfl⟩;have s1:=hS.r;have s2:=s1.r;have s3:=s2.r;have s4:=s3.r;have s5:=s4.r;have s6:=s5.r;have s7:=s6.r;have s8:=s7.r;simp only[Ak,Nat.zero_add,Nat.reduceAdd]at s1 s2 s3 s4 s5 s6 s7 s8;have r0:=rcN (W0:=W0) (T:=T) hg hS.l hl V V;have r1:=rcT (W0:=W0) (T:=T) hg s1.l hl i1.1 hT i1.2;have r2:=rcN (W0:=W0) (T:=T) hg s2.l hl V V;have r3:=rcN (W0:=W0) (T:=T) hg s3.l hl V V;have r4:=rcN (W0:=W0) (T:=T) hg s4.l hl V V;have r5:=rcN (W0:=W0) (T:=T) hg s5.l hl V V;have r6:=rcN (W0:=W0) (T:=T) hg s6.l hl V V;have r7:=rcT (W0:=W0) (T:=T) hg s7.l hl i2.1 hT i2.2;have r8:=rcT (W0:=W0) (T:=T) hg s8 hl i3.1 hT i3.2;have hend:N s=12:=by rw[e];rfl
  clear hS s1 s2 s3 s4 s5 s6 s7 s8;refine goW 63 43 2 ?_;refine Wm ?_;refine ExM.un 2 ?_;refine Wm ?_;refine ExM.un 3 ?_;refine Wm ?_;refine ExM.drawC hg ?_;refine Wc ?_;refine jC (r7 _) ?_;refine jE (v:=aH 1 3 0 1<|some 1) Z ?_;refine jE (v:=aH 1 4 0 1 none) Z ?_;refine Wc ?_;refine Wm ?_;refine uN ?_;refine Wm ?_;refine ExM.drawC hg ?_;refine Wc ?_;refine jC (r8 _) ?_;refine jE (v:=aH 1 5 0 1<|some 1) Z ?_;refine jE (Sm (l:=[[120]]) (p:=[[121,32,121]]) Z Z Z Z Z Z) ?_ (hs:=by simp only[Ah,and_true,C0,lCo,lNi];omega);refine Wc ?_;refine Wm ?_;refine uN ?_;refine Wm ?_;refine uE<|kJ ?_ (hj:=by with_unfolding_all rfl);refine ExM.fh (s1:=⟨.al [(0,aP 0 0),(1,aP 1 0),(4,aP 2 0),(6,J U (1:Nat)),(7,J U (0:Nat))],rdX s 12 (Br T) [C 31 [K0,K1,aN,aN] false,C 51 (tb0<|aR 1 [S [120],S [121,32,121]]) false],43⟩) ?_ ?_;·exact B6 3 (frC (frO<|flC fvS<|flC fvI<|flC (Aq Bf) flN)<|frC (frO<|flC (Aq h0)<|flC (Aq h1)<|flC Am<|flC Am flN)<|frC (frO<|flC fvS<|flC fvI<|flC fvI<|flC fvI<|flC fvI<|flC (Sl V V Z Z Z Z) flN) frN)<|fzC Z (Af (id:=0) (off:=0) V)<|fzC Z (Af (id:=1) (off:=0) V)<|fzC Z (Af (id:=2) (off:=0) V)<|fI<|fI fzN
  refine ExM.drawC hg ?_;refine Wc ?_;refine jE (v:=aH 6 3 0 1<|some 1) Z ?_;refine jE (v:=aH 6 4 0 1 none) Z ?_;refine Wc ?_;refine Wm ?_;refine uN ?_;refine ExM.fh (s1:=⟨.al [(6,J U (1:Nat)),(7,J U (1:Nat))],rdX s (N s) (Br T) [C 31 [K0,K1,aR 6<|tlT true,aN] false],43⟩) ?_ ?_;·exact B6 2 (frC (frO<|flC fvS<|flC (I7 (by rw[hend]))<|flC (Aq Bf) flN)<|frC (frO<|flC (Aq h0)<|flC (Aq h1)<|flC (Sl V V Z Z Z Z)<|flC Am flN) frN)<|fI<|fI fzN
  refine Wm ?_;refine uE<|kJ ?_;exact pS
theorem oAppR8 {s:St}{x y:AOpd}{l:List PRl}{q:PRl}{m jd vd:Nat}{c c':Option Nat}{H':Hz}(hm:N l=m)(hx:ev G s x=some (aH 8 jd 0 m c))(hy:ev G s y=some (aH 8 vd 0 1 c'))(hj:s.H[jd]?=some (C 64 (rlC l) true))(hv:s.H[vd]?=some (C 64 (rlL q) false))(hH:s.H.set jd (C 64 (rlC<|l++[q]) true)=H'):
 aop G s (.append 64 8 72 x y)=some (.val (aH 8 jd 0 (m+1) none) H' [(((m+1)*72:Nat),C0),((m+1:Nat),C0)]):=by
 subst hH;subst hm;have hl:aA (N l*8) (N<|rlC l)=true:=by rw[S3];exact fY _
 have hy':Cm 8 s.H (aH 8 vd 0 1 c')=some (rlL q,1):=by simp only[Cm,hv];rfl
 have e:rlC (l++[q])=rlC l++rlL q:=by simp[rlC]
 rw[e];simp only[aop,hx,hy,P4,hy',G6,hj,hl,fY,cond_true,kC];rfl
def rP (rs:List PRl)(ix:Bz→Nat)(i:Nat):Nat:=1+N ((rs.take i).flatMap<|rbB ix)
theorem KK {rs:List PRl}{ix:Bz→Nat}{i:Nat}(h:i<N rs):rP rs ix (i+1)=rP rs ix i+9:=by rw[rP,K3 rl0 h,lAp,CK,rP];omega
theorem rlT2 {rs:List PRl}{i:Nat}(h:i<N rs):rs.take (i+1)=rs.take i++[rs.getD i rl0]:=by rw[lK h,eZ,gGe h,mJ]
theorem rlT1 {rs:List PRl}(h:0<N rs):rs.take (0+1)=[rs.getD 0 rl0]:=rlT2 h
def rlA (r:PRl):List AVal:=[J U r.a,J U r.b,J U r.c,J U r.d,J U r.e]
def rlX (K0 K1 K2:AVal)(rs:List PRl):Nat→Hz
 |0=>[C 31 [K0,K1,K2,aN] false]|i+1=>[C 31 [K0,K1,K2,aH 8 4 0 (N<|rs.take<|i+1) none] false,C 62 (rlA<|rs.getD 0 rl0) false,C 64 (rlL<|rs.getD 0 rl0) false,C 64 (rlC<|rs.take<|i+1) true]
def rlS (s:Bz)(T:List Bz)(ix:Bz→Nat)(K0 K1 K2:AVal)(rs:List PRl)(i:Nat):St:=⟨.al [(0,aP 0 0),(1,aP 1 0),(6,J U<|N rs),(7,J U i)],rdX s (rP rs ix i) (Br T)<|rlX K0 K1 K2 rs i,39⟩
set_option maxHeartbeats 8000000 in
theorem rulesR (hg:hGr W0 G){T:List Bz}{ix:Bz→Nat}{rs:List PRl}{s:Bz}{K0 K1 K2:AVal}(h0:blw 0 K0=true)(h1:blw 0 K1=true)(h2:blw 0 K2=true)(hs:s=Yv ix (N rs) rs)(hl:N s≤1000000)(hT:N T≤60000)(hn:N rs<256)(hI:∀r∈rs,InT T ix r.f)
 (ha:∀r∈rs,(0≤r.a∧r.a<256)∧(0≤r.b∧r.b<256)∧(0≤r.c∧r.c<256)∧(0≤r.d∧r.d<256)∧(0≤r.e∧r.e<256)∧(0≤r.g∧r.g<256)):cP W0 64 [aP 0 0,aP 1 0] (rdX s 0 (Br T) [C 31 [K0,K1,K2,aN] false]) (aU []) (rdX s (N s) (Br T) [C 31 [K0,K1,K2,aR 8<|rs.map rlV] false]):=by
 have hS:Seg s 0 (Ad 1 (N rs)++rs.flatMap (rbB ix)):=⟨[],[],by rw[hs,List.append_nil];rfl,rfl⟩;have hF:=hS.r;rw[Ak,Nat.zero_add]at hF;have r0:=rcN (W0:=W0) (T:=T) hg hS.l hl V Y [C 31 [K0,K1,K2,aN] false];rw[Nat.zero_add]at r0;have one:∀{a:Nat}{x:Int},Seg s a (Ad 1 x.toNat)→0≤x∧x<256→∀X,cP W0 58 [aP 0 0,J U 1] (rdX s a (Br T) X) (J U x) (rdX s (a+1) (Br T) X):=λ{a x} h hx X=>by have h:=rcN (W0:=W0) (T:=T) hg h hl V (by show x.toNat<256;omega) X;rw[Int.toNat_of_nonneg hx.1]at h;exact h
 have ruF:∀i,i<N rs→(∀X,cP W0 58 [aP 0 0,J U 1] (rdX s (rP rs ix i) (Br T) X) (J U (rs.getD i rl0).a)<|rdX s (rP rs ix i+1) (Br T) X)∧
  (∀X,cP W0 58 [aP 0 0,J U 1] (rdX s (rP rs ix i+1) (Br T) X) (J U (rs.getD i rl0).b)<|rdX s (rP rs ix i+2) (Br T) X)∧
  (∀X,cP W0 58 [aP 0 0,J U 1] (rdX s (rP rs ix i+2) (Br T) X) (J U (rs.getD i rl0).c)<|rdX s (rP rs ix i+3) (Br T) X)∧
  (∀X,cP W0 58 [aP 0 0,J U 1] (rdX s (rP rs ix i+3) (Br T) X) (J U (rs.getD i rl0).d)<|rdX s (rP rs ix i+4) (Br T) X)∧
  (∀X,cP W0 58 [aP 0 0,J U 1] (rdX s (rP rs ix i+4) (Br T) X) (J U (rs.getD i rl0).e)<|rdX s (rP rs ix i+5) (Br T) X)∧
  (∀X,cP W0 90 [aP 0 0] (rdX s (rP rs ix i+5) (Br T) X) (S (rs.getD i rl0).f)<|rdX s (rP rs ix i+7) (Br T) X)∧
  (∀X,cP W0 58 [aP 0 0,J U 1] (rdX s (rP rs ix i+7) (Br T) X) (J U (rs.getD i rl0).g)<|rdX s (rP rs ix i+8) (Br T) X)∧
  (∀X,cP W0 58 [aP 0 0,J U 1] (rdX s (rP rs ix i+8) (Br T) X) (J U<|cond (rs.getD i rl0).h 1 0)<|rdX s (rP rs ix i+9) (Br T) X):=λi hi=>by
  have h:=Ta rl0 hF hi;have hx:=C5 (d:=rl0) hi;generalize hxx:rs.getD i rl0=x at h hx;obtain⟨xa,xb,xc,xd,xe,xg⟩:=ha x hx;have n0:=hI x hx;have e:rbB ix x=Ad 1 x.a.toNat++(Ad 1 x.b.toNat++(Ad 1 x.c.toNat++(Ad 1 x.d.toNat++(Ad 1 x.e.toNat++(Ad 2 (ix x.f)++(Ad 1 x.g.toNat++Ad 1 (cond x.h 1 0))))))):=by simp[rbB,Dz,txB]
  rw[e]at h;have hP:1+N ((rs.take i).flatMap<|rbB ix)=rP rs ix i:=rfl;rw[hP]at h;have s2:=h.r;have s3:=s2.r;have s4:=s3.r;have s5:=s4.r;have s6:=s5.r;have s7:=s6.r;have s8:=s7.r;simp only[Ak,Nat.add_assoc,Nat.reduceAdd]at s2 s3 s4 s5 s6 s7 s8;refine⟨one h.l xa,one s2.l xb,one s3.l xc,one s4.l xd,one s5.l xe,rcT hg s6.l hl n0.1 hT n0.2,one s7.l xg,?_⟩;intro X;have h8:=rcN (W0:=W0) (T:=T) hg s8 hl V (by cases x.h<;>decide) X;have e8:(((cond x.h 1 0:Nat)):Int)=(cond x.h 1 0:Int):=by cases x.h<;>rfl
  rw[e8]at h8;exact h8
 clear one;have hend:N s=rP rs ix (N rs):=by rw[hs,Yv,lAp,Ak,rP,List.take_length]
 refine goW 64 39 2 ?_;refine Wm ?_;refine ExM.lpA (σ:=Nat) (rlS s T ix K0 K1 K2 rs) (λi=>i≤N rs) (λi=>N rs-i) 0 ?_ (Nat.zero_le _) ?_;·exact B6 2 (frC (frO<|flC fvS<|flC fvI<|flC (Aq Bf) flN)<|frC (frO<|flC (Aq h0)<|flC (Aq h1)<|flC (Aq h2)<|flC Am flN) frN)<|fzC Z (Af (id:=0) (off:=0) V)<|fzC Z (Af (id:=1) (off:=0) V)<|fI<|fI fzN
 intro i hi;have hi:i≤N rs:=hi;by_cases hlt:i<N rs
 ·cases i with
  |zero=>obtain⟨t1,t2,t3,t4,t5,t6,t7,t8⟩:=ruF 0 hlt;obtain⟨p,hp⟩:∃p,p=rP rs ix 0:=⟨_,rfl⟩;unfold rlS rlX;rw[←hp]at t1 t2 t3 t4 t5 t6 t7 t8⊢;refine Wm ?_;refine ExM.drawC hg ?_;refine Wc ?_;refine jC (t6 _) ?_;refine Wc ?_;refine jC (t7 _) ?_;refine Wc ?_;refine jC (t8 _) ?_;refine jV (v:=I (rs.getD 0 rl0).h) rfl (by cases(rs.getD 0 rl0).h<;>rfl) ?_;refine Wc ?_;refine jE (v:=aH 8 3 0 1<|some 1) Z ?_;refine jE (v:=aH 8 4 0 1 none) Z ?_;refine Wc ?_;refine Wm ?_;exact haN 1 hlt Y<|B6 5 (frC (frO<|flC fvS<|flC (I7 (by rw[hp,KK hlt]))<|flC (Aq Bf) flN)<|frC (frO<|flC (Aq h0)<|flC (Aq h1)<|flC (Aq h2)<|flC (Gy V (by simp only[List.length_take];omega)) flN)<|frC (frS Z)<|frC (frS Z)<|frC (by rw[rlT1 hlt];exact frS<|I2 [rs.getD 0 rl0]) frN)<|fzC Z (Af (id:=0) (off:=0) V)<|fzC Z (Af (id:=1) (off:=0) V)<|fI<|fI fzN
  |succ i=>obtain⟨t1,t2,t3,t4,t5,t6,t7,t8⟩:=ruF (i+1) hlt;obtain⟨p,hp⟩:∃p,p=rP rs ix (i+1):=⟨_,rfl⟩;unfold rlS rlX;rw[←hp]at t1 t2 t3 t4 t5 t6 t7 t8⊢;refine Wm ?_;refine ExM.drawC hg ?_;refine Wc ?_;refine jC (t6 _) ?_;refine Wc ?_;refine jC (t7 _) ?_;refine Wc ?_;refine jC (t8 _) ?_;refine jV (v:=I (rs.getD (i+1) rl0).h) rfl (by cases(rs.getD (i+1) rl0).h<;>rfl) ?_;refine Wc ?_;refine jE (v:=aH 8 6 0 1<|some 1) Z ?_;refine jE (oAppR8 (l:=rs.take<|i+1) (q:=rs.getD (i+1) rl0) Z Z Z Z Z Z) ?_ (hs:=by simp only[Ah,and_true,C0,List.length_take];omega);refine Wc ?_;refine Wm ?_;exact haN (i+2) hlt Y<|B6 5 (frC (frO<|flC fvS<|flC (I7 (by rw[hp,KK hlt]))<|flC (Aq Bf) flN)<|frC (frO<|flC (Aq h0)<|flC (Aq h1)<|flC (Aq h2)<|flC (Gy V (by simp only[List.length_take];omega)) flN)<|frC (frS Z)<|frC (frS Z)<|frC (by rw[rlT2 hlt];exact frS<|I2 _) frN)<|fzC Z (Af (id:=0) (off:=0) V)<|fzC Z (Af (id:=1) (off:=0) V)<|fI<|fI fzN
 ·have he:i=N rs:=by omega
  have hE:∀(X:Hz) (v:AVal) (H:Hz),FzV (rdX s (rP rs ix<|N rs) (Br T) (C 31 [K0,K1,K2,v] false::X)) 2 v (aR 8<|rs.map rlV)→Fh 2 ⟨.al [(0,aP 0 0),(1,aP 1 0),(6,J U<|N rs),(7,J U<|N rs)],rdX s (N s) (Br T) [C 31 [K0,K1,K2,aR 8<|rs.map rlV] false],39⟩ ⟨.al [(0,aP 0 0),(1,aP 1 0),(6,J U<|N rs),(7,J U<|N rs)],rdX s (rP rs ix<|N rs) (Br T) (C 31 [K0,K1,K2,v] false::X),39⟩:=λX v _ hv=>B6 2 (frC (frO<|flC fvS<|flC (I7 (by rw[hend]))<|flC (Aq Bf) flN)<|frC (frO<|flC (Aq h0)<|flC (Aq h1)<|flC (Aq h2)<|flC hv flN) frN)<|fzC rfl (Af (id:=0) (off:=0) V)<|fzC rfl (Af (id:=1) (off:=0) V)<|fI<|fI fzN;subst he;have hfin:Fh 2 ⟨.al [(0,aP 0 0),(1,aP 1 0),(6,J U<|N rs),(7,J U<|N rs)],rdX s (N s) (Br T) [C 31 [K0,K1,K2,aR 8<|rs.map rlV] false],39⟩ (rlS s T ix K0 K1 K2 rs<|N rs):=by unfold rlS;cases rs with|nil=>exact hE [] aN [] Oa|cons r q=>have ht:(r::q).take (N q+1)=r::q:=List.take_length (l:=r::q);refine hE [C 62 (rlA<|(r::q).getD 0 rl0) false,C 64 (rlL<|(r::q).getD 0 rl0) false,C 64 (rlC<|(r::q).take<|N q+1) true] (aH 8 4 0 (N<|(r::q).take<|N q+1) none) [] ?_;exact Sl V V Z (by rw[S3]) (by rw[ht];exact Tv (r::q))<|Cj (r::q)
  refine ExM.fh hfin ?_;refine Wm ?_;refine haE<|kJ ?_;exact pS
def bL (bd:Nat→Bz)(k:Nat):List Bz:=(eD k).map bd
theorem LP (bd:Nat→Bz)(k:Nat):bL bd (k+1)=bL bd k++[bd k]:=by simp[bL,List.range_succ]
theorem bL_len (bd:Nat→Bz)(k:Nat):N (bL bd k)=k:=by simp[bL]
def tkA :ACode:=(.ops [⟨some 2,none,.alloc 31 [aN,aN,aN,aN]⟩,
 ⟨some 3,none,.alloc 4 [I false]⟩])
def tkB :ACode:=(.seq (.ops [⟨some 8,none,.move (.tmp 0)⟩,
 ⟨some 9,none,.idxSl 1 (.tmp 8)<|.val<|J U 0⟩,
 ⟨some 10,none,.load 1 false<|.tmp 9⟩,
 ⟨some 11,none,.build [S [],J U 0,aN] [(0,1,(.tmp 10))]⟩,
 ⟨some 12,none,.box 75<|.tmp 11⟩,
 ⟨some 4,none,.move (.tmp 12)⟩])
 (.seq (.ops [⟨some 13,none,.move (.tmp 4)⟩,
  ⟨some 14,none,.call (.val (.fn 60 [] [])) [(.tmp 13)]⟩])
 (.seq (.seq (.ops [⟨some 15,none,.bslice 122 1 4 [.nilFn] [(0,1,(.val (.fn 61 [] []))),(1,1,(.val (.fn 62 [] []))),(2,1,(.val (.fn 63 [] []))),(3,1,(.val (.fn 64 [] [])))]⟩,
  ⟨some 16,none,.len false<|.tmp 15⟩,
  ⟨some 17,none,.move (.val (J U 0))⟩])
 (.block 0
  (.loop
   (.seq (.ops [⟨some 18,none,.bin .lss none (.tmp 17) (.tmp 16)⟩])
   (.seq (.cond (.tmp 18)
    .skip
    (.exit 0))
   (.seq (.block 1
    (.seq (.ops [⟨some 19,none,.move (.tmp 17)⟩,
     ⟨some 20,none,.idxSl 1 (.tmp 15)<|.tmp 17⟩,
     ⟨some 21,none,.load 1 false<|.tmp 20⟩,
     ⟨some 5,none,.move<|.tmp 19⟩,
     ⟨some 6,none,.move (.tmp 21)⟩])
    (.drawC [⟨some 22,none,.move (.tmp 6)⟩,
     ⟨some 23,none,.move<|.tmp 0⟩,
     ⟨some 24,none,.move<|.tmp 5⟩,
     ⟨some 25,none,.bin .add none (.tmp 24)<|.val<|J U 1⟩,
     ⟨some 26,none,.idxSl 1 (.tmp 23)<|.tmp 25⟩,
     ⟨some 27,none,.load 1 false<|.tmp 26⟩,
     ⟨some 28,none,.move<|.tmp 4⟩,
     ⟨some 29,none,.nilCheck<|.tmp 28⟩,
     ⟨some 30,none,.fieldAddr 2<|.tmp 29⟩,
     ⟨some 31,none,.load 1 false<|.tmp 30⟩,
     ⟨some 32,none,.build [S [],J U 0,aN] [(0,1,(.tmp 27)),(2,1,(.tmp 31))]⟩,
     ⟨some 33,none,.box 75<|.tmp 32⟩,
     ⟨some 34,none,.call (.tmp 22) [(.tmp 33),(.tmp 2)]⟩] ⟨13,[0,0,0,0,1,1,0,1,1,1,0,2,3],[0,0,0,4,14,30,0,64,192,448,1022,2046,4095],[0,2048,6144]⟩)))
   (.ops [⟨some 35,none,.bin .add none (.tmp 17) (.val (J U 1))⟩,
    ⟨some 17,none,.move (.tmp 35)⟩])))))))
 (.seq (.ops [⟨some 36,none,.load 4 true (.tmp 2)⟩,
  ⟨none,none,.store 4 (.tmp 2)<|.tmp 36⟩,
  ⟨none,none,.store 1 (.tmp 3) (.val (I true))⟩])
 .ret))))
theorem bkAt {f:FuncId}{s:Bz}{a a' j:Nat}{L:AVal}{K K':List AVal}{H:Hz}(hL:blw 0 L=true)(hK:A8 0 K=true)(hK':A8 0 K'=true)(hj:H[j]?=some (C 75 [S s,J U a,L] false))(h0:H[0]?=some (C 31 K false))(hn:j≠0)
 (h:cP W0 f [aP 0 0,aP 1 0] (rdX s a L [C 31 K false]) (aU [])<|rdX s a' L [C 31 K' false]):cP W0 f [aP j 0,aP 0 0] H (aU []) ((H.set j<|C 75 [S s,J U a',L] false).set 0<|C 31 K' false):=by
 have e:∀(ρ:Nat→Nat) (x:Int),G7 ρ (C 75 [S s,J U x,L] false)=C 75 [S s,J U x,L] false:=λρ x=>by show C 75 (F9 _ [S s,J U x,L]) false=_;rw[Bv _<|rdB hL]
 have e2:∀(ρ:Nat→Nat) (K:List AVal),A8 0 K=true→G7 ρ (C 31 K false)=C 31 K false:=λρ K hK=>by show C 31 (F9 _ K) false=_;rw[Bv _ hK]
 have hsel:Sel [j,0] 2 (rdX s a L [C 31 K false]) H (λk=>cond (aA k 0) j 0):=by
  refine⟨by simp[hn],rfl,rfl,λk hk=>?_,λk hk=>?_,λk o ho=>?_⟩;·match k,hk with|0,_=>rfl|1,_=>rfl
  ·simp only[eS,eY,or_false]at hk;rcases hk with rfl|rfl;·exact(aC.1 hj).1
   ·exact(aC.1 h0).1
  ·match k,ho with
   |0,ho=>have ho:some (C 75 [S s,J U a,L] false)=some o:=ho;injection ho with ho;subst ho;rw[e];exact hj
   |1,ho=>have ho:some (C 31 K false)=some o:=ho;injection ho with ho;subst ho;rw[e2 _ _ hK];exact h0
   |k+2,ho=>cases ho
 have h1:=A5.ren (args:=[aP 0 0,aP 1 0]) (H:=H) (H0:=rdX s a L [C 31 K false]) (H0':=rdX s a' L [C 31 K' false]) [j,0] (λk=>cond (aA k 0) j 0) hsel (by
  show cond (A8 2 [S s,J U a,L]) (cond (A8 2 K) true false) false=true
  rw[Dv (hZ 2) _ (rdB hL),Dv (hZ 2) _ hK];rfl) rfl rfl h
 have h3:Ei [j,0] ((rdX s a' L [C 31 K' false]).map<|G7 λk=>cond (aA k 0) j 0) H=(H.set j<|C 75 [S s,J U a',L] false).set 0 (C 31 K' false):=by show(H.set j<|G7 _ _).set 0 (G7 _ _)=_;rw[e,e2 _ _ hK']
 rw[h3]at h1;exact h1
set_option maxHeartbeats 8000000 in
theorem takenR (hg:hGr W0 G){b0 b1 b2 b3 b4:Bz}{T:List Bz}{Sx Nx B R:List AVal}{d a:Nat}(hS:A8 0 Sx=true)(hN:A8 0 Nx=true)(hB:A8 0 B=true)(hR:A8 0 R=true)
 (c0:cP W0 60 [aP 0 0] (rd b0 0 aN) (aU [])<|rd b0 d<|Br T)
 (c1:cP W0 61 [aP 0 0,aP 1 0] (rdX b1 0 (Br T) [C 31 [aN,aN,aN,aN] false]) (aU [])<|rdX b1 (N b1) (Br T) [C 31 [aR 2 Sx,aN,aN,aN] false])
 (c2:cP W0 62 [aP 0 0,aP 1 0] (rdX b2 0 (Br T) [C 31 [aR 2 Sx,aN,aN,aN] false]) (aU [])<|rdX b2 (N b2) (Br T) [C 31 [aR 2 Sx,aR 3 Nx,aN,aN] false])
 (c3:cP W0 63 [aP 0 0,aP 1 0] (rdX b3 0 (Br T) [C 31 [aR 2 Sx,aR 3 Nx,aN,aN] false]) (aU [])<|rdX b3 (N b3) (Br T) [C 31 [aR 2 Sx,aR 3 Nx,aR 6 B,aN] false])
 (c4:cP W0 64 [aP 0 0,aP 1 0] (rdX b4 0 (Br T) [C 31 [aR 2 Sx,aR 3 Nx,aR 6 B,aN] false]) (aU [])<|rdX b4 a (Br T) [C 31 [aR 2 Sx,aR 3 Nx,aR 6 B,aR 8 R] false]):
 cP W0 23 [aR 1 [S b0,S b1,S b2,S b3,S b4]] [] (aU [aG [aR 2 Sx,aR 3 Nx,aR 6 B,aR 8 R],I true]) []:=by
 have k1:A8 0 [aR 2 Sx,aN,aN,aN]=true:=by show cond (A8 0 Sx) true false=true;rw[hS];rfl
 have k2:A8 0 [aR 2 Sx,aR 3 Nx,aN,aN]=true:=by show cond (A8 0 Sx) (cond (A8 0 Nx) true false) false=true;rw[hS,hN];rfl
 have k3:A8 0 [aR 2 Sx,aR 3 Nx,aR 6 B,aN]=true:=by show cond (A8 0 Sx) (cond (A8 0 Nx) (cond (A8 0 B) true false) false) false=true;rw[hS,hN,hB];rfl
 have k4:A8 0 [aR 2 Sx,aR 3 Nx,aR 6 B,aR 8 R]=true:=by show cond (A8 0 Sx) (cond (A8 0 Nx) (cond (A8 0 B) (cond (A8 0 R) true false) false) false) false=true;rw[hS,hN,hB,hR];rfl
 refine A5.of_idle1 hg (a0:=tkA) (ar:=tkB) (ao:=⟨some 7,none,.mkfn 59 [] [.tmp 2,.tmp 3]⟩) (t:=7) (g:=59) (n:=37) Tryz.func23 Z (by simp[Tryz.f23]) OV (F2 Ar) Ar Ar Ar Z Z Z ⟨_,Z,Z,Z⟩ B4 Z Z ?_;unfold tkA;refine Wm ?_;refine⟨Z,?_⟩;refine⟨O,Z,⟨_,Z,Z⟩,?_⟩;unfold tkB;refine Wm ?_;refine mS (v:=aE (S b0) 0) Z ?_ (hs:=by simp only[Ah,and_true,lCo,lNi];decide);refine Wm ?_;refine mC Z (rdAt2 (wr:=.returned) (i:=2) Z Bf Z Z Z c0) ?_;refine Wm ?_;refine mS (v:=aH 1 3 0 4<|some 4) Z ?_;refine Wm ?_;refine ExM.un 4 ?_;refine Wm ?_;refine mS (v:=aP 3 0) Z ?_ (hs:=by simp only[Ah,and_true,lCo,lNi];decide);refine Wm ?_;refine ExM.drawC hg ?_;refine Wc ?_;refine jV (v:=aE (S b1) 0) Z Z ?_ (hs:=by simp only[Ah,and_true,lCo,lNi];decide);refine Wc ?_;refine jE (v:=aP 4 0) Z ?_;refine jC (bkAt (j:=4) Bf Z k1 Z Z V c1) ?_;refine Wc ?_;refine Wm ?_;refine uN ?_;refine Wm ?_;refine mS (v:=aP 3 1) Z ?_ (hs:=by simp only[Ah,and_true,lCo,lNi];decide);refine Wm ?_;refine ExM.drawC hg ?_;refine Wc ?_;refine jV (v:=aE (S b2) 0) Z Z ?_ (hs:=by simp only[Ah,and_true,lCo,lNi];decide);refine Wc ?_;refine jE (v:=aP 5 0) Z ?_;refine jC (bkAt (j:=5) Bf k1 k2 Z Z V c2) ?_;refine Wc ?_;refine Wm ?_;refine uN ?_;refine Wm ?_;refine mS (v:=aP 3 2) Z ?_ (hs:=by simp only[Ah,and_true,lCo,lNi];decide);refine Wm ?_;refine ExM.drawC hg ?_;refine Wc ?_;refine jV (v:=aE (S b3) 0) Z Z ?_ (hs:=by simp only[Ah,and_true,lCo,lNi];decide);refine Wc ?_;refine jE (v:=aP 6 0) Z ?_;refine jC (bkAt (j:=6) Bf k2 k3 Z Z V c3) ?_;refine Wc ?_;refine Wm ?_;refine uN ?_;refine Wm ?_;refine mS (v:=aP 3 3) Z ?_ (hs:=by simp only[Ah,and_true,lCo,lNi];decide);refine Wm ?_;refine ExM.drawC hg ?_;refine Wc ?_;refine jV (v:=aE (S b4) 0) Z Z ?_ (hs:=by simp only[Ah,and_true,lCo,lNi];decide);refine Wc ?_;refine jE (v:=aP 7 0) Z ?_;refine jC (bkAt (j:=7) Bf k3 k4 Z Z V c4) ?_;refine Wc ?_;refine Wm ?_;refine uN ?_;refine Wm ?_;refine uE<|kJ ?_ (hj:=by with_unfolding_all rfl);refine Wm ?_;exact⟨O,_,Z,.inr ⟨Z,(Lm (aU [aG [aR 2 Sx,aR 3 Nx,aR 6 B,aR 8 R],I true]) (by show cond (A8 0 [aR 2 Sx,aR 3 Nx,aR 6 B,aR 8 R]) true false=true;rw[k4];rfl)).imp λk hk=>hk k<|Nat.le_refl _,Z⟩⟩
theorem secD (hg:hGr W0 G){bd:Nat→Bz}{s:Bz}{i:Nat}(hi:i<5)(h:Seg s (4+N (D6 bd i))<|Xf i<|bd i)(hl:N s≤1000000)(X:Hz):cP W0 22 [aP 3 0,J U (i+1:Nat)] (hD s (4+N (D6 bd i))++X) (S<|bd i) (hD s (4+N (D6 bd<|i+1))++X):=by have h1:=secS (W0:=W0) (L:=aN) hg Z hi h hl;have e:=Mc (bd:=bd) i;rw[show 4+N (D6 bd i)+9+N (bd i)=4+N (D6 bd<|i+1)by omega]at h1;exact rdAt (wr:=.returned) (H:=hD s (4+N (D6 bd i))++X) (i:=3) Z Z Z Z h1
theorem needD (hg:hGr W0 G){s:Bz}(h:Seg s 0 E8)(hl:N s≤1000000):cP W0 21 [aP 3 0,S E8] (hD s 0) (aU []) (hD s 4):=rdAt (wr:=.returned) (H:=hD s 0) (i:=3) (L:=aN) rfl rfl rfl rfl<|needS hg rfl h hl V
def wre :ACode:=(.seq (.seq (.ops [⟨(some 33),none,(.move<|.tmp 5)⟩,⟨(some 34),none,(.nilCheck<|.tmp 33)⟩,⟨(some 35),none,(.fieldAddr 1<|.tmp 34)⟩,⟨(some 36),none,(.load 1 false<|.tmp 35)⟩,⟨(some 37),none,(.move<|.tmp 0)⟩,⟨(some 38),none,(.len true<|.tmp 37)⟩,⟨(some 39),none,(.bin .lss none (.tmp 36)<|.tmp 38)⟩])<|.cond (.tmp 39) (.seq (.drawC [⟨(some 40),none,(.build [aN,aN,aN,aN] [])⟩,⟨(some 41),none,(.move<|.tmp 5)⟩,⟨(some 42),none,(.nilCheck<|.tmp 41)⟩,⟨(some 43),none,(.fieldAddr 1<|.tmp 42)⟩,⟨(some 44),none,(.load 1 false<|.tmp 43)⟩,⟨none,none,(.store 4 (.tmp 2)<|.tmp 40)⟩,⟨none,none,(.store 1 (.tmp 3)<|.tmp 44)⟩,⟨none,none,(.store 1 (.tmp 4)<|.val<|J U 250)⟩] ⟨8,[0,0,1,1,1,2,2,2],[0,0,2,6,14,1,63,127],[0,32,96,224]⟩) .ret) .skip)<|.seq (.ops [⟨(some 46),none,(.move<|.tmp 6)⟩,⟨(some 47),none,(.call (.val<|.fn 23 [] []) [(.tmp 46)])⟩,⟨(some 45),none,(.move<|.tmp 47)⟩,⟨(some 48),none,(.extract (.tmp 45) 0)⟩,⟨(some 49),none,(.extract (.tmp 45) 1)⟩,⟨(some 8),none,(.alloc 31 [aN,aN,aN,aN])⟩,⟨none,none,(.store 4 (.tmp 8)<|.tmp 48)⟩,⟨(some 9),none,(.move<|.tmp 49)⟩])<|.seq (.seq (.ops [⟨(some 51),none,(.load 4 true<|.tmp 8)⟩,⟨(some 52),none,(.call (.val<|.fn 7 [] []) [(.tmp 51)])⟩,⟨(some 50),none,(.move<|.tmp 52)⟩,⟨(some 53),none,(.extract (.tmp 50) 0)⟩,⟨(some 54),none,(.extract (.tmp 50) 1)⟩,⟨(some 10),none,(.move<|.tmp 53)⟩,⟨(some 11),none,(.move<|.tmp 54)⟩])<|.seq (.ops [⟨(some 55),none,(.move<|.tmp 9)⟩,⟨(some 56),none,(.un .not<|.tmp 55)⟩,⟨(some 57),none,(.move<|.tmp 56)⟩,⟨(some 58),(some (57,false)),(.move<|.tmp 11)⟩,⟨(some 59),(some (57,false)),(.bin .neq none (.tmp 58)<|.val<|J U 0)⟩,⟨(some 60),none,(.pick (.tmp 57) (.val<|I true)<|.tmp 59)⟩,⟨(some 61),none,(.move<|.tmp 60)⟩,⟨(some 62),(some (61,false)),(.move<|.tmp 10)⟩,⟨(some 63),(some (61,false)),(.move<|.tmp 0)⟩,⟨(some 64),(some (61,false)),(.bin .neq none (.tmp 62)<|.tmp 63)⟩,⟨(some 65),none,(.pick (.tmp 61) (.val<|I true)<|.tmp 64)⟩])<|.cond (.tmp 65) (.seq (.ops [⟨(some 66),none,(.build [aN,aN,aN,aN] [])⟩,⟨none,none,(.store 4 (.tmp 2)<|.tmp 66)⟩,⟨none,none,(.store 1 (.tmp 3)<|.val<|J U 0)⟩,⟨none,none,(.store 1 (.tmp 4)<|.val<|J U 250)⟩]) .ret) .skip)<|.seq (.ops [⟨(some 67),none,(.load 4 true<|.tmp 8)⟩,⟨none,none,(.store 4 (.tmp 2)<|.tmp 67)⟩,⟨none,none,(.store 1 (.tmp 3)<|.val<|J U 0)⟩,⟨none,none,(.store 1 (.tmp 4)<|.val<|J U 0)⟩]) .ret)
def dcT (s:Bz)(bd:Nat→Bz):Nat→St
 |0=>⟨.al [(0,S s),(2,aP 0 0),(3,aP 1 0),(4,aP 2 0),(5,aP 3 0),(6,aN),(22,J U (0:Nat))],hD s 4,68⟩|i+1=>⟨.al [(0,S s),(2,aP 0 0),(3,aP 1 0),(4,aP 2 0),(5,aP 3 0),(6,aH 1 5 0 (N<|bL bd<|i+1) none),(22,J U (i+1:Nat))],(hD s (4+N (D6 bd<|i+1))++[C 9 [S<|bd 0] false,C 9 (Ce<|bL bd<|i+1) true]),68⟩
theorem decAll (hg:hGr W0 G){bd:Nat→Bz}{s:Bz}{v:AVal}(hl:N s≤200000)(hm:Seg s 0 E8)(hsec:∀i,i<5→Seg s (4+N (D6 bd i)) (Xf i<|bd i))
 (hK:ExM gH W0 0 wre ⟨.al [(0,S s),(2,aP 0 0),(3,aP 1 0),(4,aP 2 0),(5,aP 3 0),(6,aR 1<|(bL bd 5).map S)],hD s<|4+N (D6 bd 5),68⟩ λe s3=>(match e with|.exit _=>False|_=>True)∧∃vs,Dk gH s3 Tryz.f8.results.toList=some vs∧((Cb vs=v∧s3.H=[])∨(B7 0 (s3.H.take 0)=true∧(∃m,frz s3.H 0 m (Cb vs)=some v)∧s3.H.take 0=[]))):cP W0 8 [S s] [] v []:=by
 have hl6:N s≤1000000:=Y;have hm:=needD (W0:=W0) hg hm hl6;have hsi:=λi hi=>secD (W0:=W0) hg hi (hsec i hi) hl6;refine A5.of_idle2 hg (a0:=wa0) (a1:=wa1) (ar:=war) (ao:=⟨some 16,none,.mkfn 20 [] [.tmp 2,.tmp 3,.tmp 4]⟩) (t:=16) (g:=20) (n:=68) nL Z (by simp[Tryz.f8]) TK (F2 Ar) Ar Ar Ar Ar Z Z Z ⟨_,Z,Z,Z⟩ B4 Z Z ?_;unfold wa0;refine Wm ?_;refine⟨Z,?_⟩;unfold wa1;refine Wm ?_;refine⟨Z,?_⟩;refine⟨O,Z,⟨_,Z,Z⟩,?_⟩;unfold war;refine Wm ?_;refine lZ (σ:=Nat) (τ:=Unit) (dcT s bd) (λi=>i≤5) (λi=>5-i) 0 (λ_=>⟨.al [(0,S s),(2,aP 0 0),(3,aP 1 0),(4,aP 2 0),(5,aP 3 0),(6,aR 1<|(bL bd 5).map S)],hD s<|4+N (D6 bd 5),68⟩) (λ_=>True) (B6 4 (frC (frS Z)<|frC (frS Z)<|frC (frS Z)<|frC (frS Z) frN)<|fS<|fzC Z (Af (id:=0) (off:=0) V)<|fzC Z (Af (id:=1) (off:=0) V)<|fzC Z (Af (id:=2) (off:=0) V)<|fzC Z (Af (id:=3) (off:=0) V)<|fzC Z Am<|fI fzN) (hZ _) (λi hi=>?_)<|λ_ _=>hK;have hi:i≤5:=hi;by_cases hlt:i<5;·have h0:=hsi i hlt;clear hsi;cases i with|zero=>have h0:=h0 [];rw[lP,lP]at h0;unfold dcT;refine Wm ?_;refine mS (v:=aH 1 4 0 1<|some 1) Z ?_;refine mS (v:=aH 1 5 0 1 none) Z ?_ (hs:=by simp only[Ah,and_true,C0];decide);refine Wm ?_;exact hoN 1 hlt Y (B6 6 (frC (frS Z)<|frC (frS Z)<|frC (frS Z)<|frC (frS Z)<|frC (frS Z)<|frC (frS Z) frN)<|fS<|fzC Z (Af (id:=0) (off:=0) V)<|fzC Z (Af (id:=1) (off:=0) V)<|fzC Z (Af (id:=2) (off:=0) V)<|fzC Z (Af (id:=3) (off:=0) V)<|fzC Z (D3 V)<|fI fzN)|succ i=>unfold dcT;refine Wm ?_;refine mS (v:=aH 1 6 0 1<|some 1) Z ?_;refine mS (Sm (p:=[bd<|i+1]) Z Z Z Z Z Z) ?_ (hs:=by simp only[Ah,and_true,C0,lCo,lNi,bL_len];omega);refine Wm ?_;exact hoN (i+2) hlt Y<|B6 6 (frC (frS Z)<|frC (frS Z)<|frC (frS Z)<|frC (frS Z)<|frC (frS Z)<|frC (by rw[LP bd<|i+1];exact frS<|Cf _) frN)<|fS<|fzC Z (Af (id:=0) (off:=0) V)<|fzC Z (Af (id:=1) (off:=0) V)<|fzC Z (Af (id:=2) (off:=0) V)<|fzC Z (Af (id:=3) (off:=0) V)<|fzC Z (by rw[LP bd<|i+1];exact D3 V)<|fI fzN
 ·have he:i=5:=by omega
  subst he;unfold dcT;refine Wm ?_;exact hoE () O<|B6 4 (frC (frS Z)<|frC (frS Z)<|frC (frS Z)<|frC (frS Z) frN)<|fS<|fzC Z (Af (id:=0) (off:=0) V)<|fzC Z (Af (id:=1) (off:=0) V)<|fzC Z (Af (id:=2) (off:=0) V)<|fzC Z (Af (id:=3) (off:=0) V)<|fzC Z (Sl V V Z LL (by have:=L8 (bL bd 5) [];rw[lP]at this;exact this)<|Cf _) fzN
theorem seg_sec {bd:Nat→Bz}{s r:Bz}(hs:s=E8++D6 bd 5++r){i:Nat}(hi:i<5):Seg s (4+N (D6 bd i)) (Xf i<|bd i):=by obtain⟨q,hq⟩:=KS bd hi;exact⟨E8++D6 bd i,q++r,by rw[hs,hq];simp only[Xf,cE],bY210⟩
theorem decF (hg:hGr W0 G){bd:Nat→Bz}{s:Bz}{l0 l1 l2 l3:List AVal}(hs:s=E8++D6 bd 5)(hl:N s≤200000)(hb:A8 0 [aR 2 l0,aR 3 l1,aR 6 l2,aR 8 l3]=true)
 (ht:cP W0 23 [aR 1<|(bL bd 5).map S] [] (aU [aG [aR 2 l0,aR 3 l1,aR 6 l2,aR 8 l3],I true]) []) (he:cP W0 7 [aG [aR 2 l0,aR 3 l1,aR 6 l2,aR 8 l3]] [] (aU [S s,J U 0]) []):cP W0 8 [S s] [] (aU [aG [aR 2 l0,aR 3 l1,aR 6 l2,aR 8 l3],J U 0,J U 0]) []:=by
 have h1:N s=4+N (D6 bd 5):=by rw[hs,lAp];rfl
 have hv:blw 0 (aG [aR 2 l0,aR 3 l1,aR 6 l2,aR 8 l3])=true:=hb;have hba:∀r,A8 0 r=true→A8 0 (aG [aR 2 l0,aR 3 l1,aR 6 l2,aR 8 l3]::r)=true:=λr hr=>by show cond (blw 0<|aG [aR 2 l0,aR 3 l1,aR 6 l2,aR 8 l3]) (A8 0 r) false=true;rw[hv,hr];rfl
 have hs':s=E8++D6 bd 5++[]:=by rw[lP];exact hs
 have ht:=λH=>hO (W0:=W0) (P:=gH) (by show cond (A8 0<|Ce<|bL bd 5) true false=true;rw[Cf];rfl) (show blw 0 (aU _)=true from hba [I true] Z) ht H;have he:=λH=>hO (W0:=W0) (P:=gH) (hba [] Z) Z he H;refine decAll hg hl ⟨[],D6 bd 5,hs,Z⟩ (λi hi=>seg_sec hs' hi) ?_;unfold wre;refine Wm ?_;refine mF Z ?_ (hb:=by simp);refine Wm ?_;exact⟨O,_,Z,.inr ⟨Z,(Lm (aU [aG [aR 2 l0,aR 3 l1,aR 6 l2,aR 8 l3],J U 0,J U 0])<|hba [J U 0,J U 0] Z).imp λk hk=>hk k<|bC _,Z⟩⟩
end Go.Abs
namespace Go.Abs
open Go.Proofs Go.RowKit
set_option maxRecDepth 100000
theorem Oi {k n m:Nat}{R R':Bz}(hn:n<256^k)(hm:m<256^k)(h:Ad k n++R=Ad k m++R'):n=m∧R=R':=by obtain⟨h1,h2⟩:=nB h (by rw[Ak,Ak]);have:=congrArg Hn h1;rw[Gp,Gp,mN hn,mN hm]at this;exact⟨this,h2⟩
theorem fmI {α:Type}{f:α→Bz}{P:α→Prop}(h:∀x y R R',P x→P y→f x++R=f y++R'→x=y∧R=R'):∀{l l':List α}{R R':Bz},N l=N l'→(∀x∈l,P x)→(∀x∈l',P x)→l.flatMap f++R=l'.flatMap f++R'→l=l'∧R=R'
 | [],[],_,_,_,_,_,e=>⟨rfl,e⟩| [],_::_,_,_,hl,_,_,_=>by simp at hl|_::_,[],_,_,hl,_,_,_=>by simp at hl|x::l,y::l',R,R',hl,h1,h2,e=>by rw[lA,lA,cE,cE]at e;obtain⟨e1,e2⟩:=h x y _ _ (h1 x B4) (h2 y B4) e;obtain⟨e3,e4⟩:=fmI h (by simpa using hl) (λz hz=>h1 z (by simp[hz])) (λz hz=>h2 z (by simp[hz])) e2;rw[e1,e3];exact⟨Z,e4⟩
theorem secI {bd bd':Nat→Bz}:∀{m:Nat}{R R':Bz},(∀i,i<m→N (bd i)<4294967296)→(∀i,i<m→N (bd' i)<4294967296)→D6 bd m++R=D6 bd' m++R'→(∀i,i<m→bd i=bd' i)∧R=R'
 |0,_,_,_,_,e=>⟨λi hi=>by omega,e⟩
 |m+1,R,R',h1,h2,e=>by
  rw[D6,D6,cE,cE]at e;obtain⟨hi,e⟩:=secI (λi hi=>h1 i Y) (λi hi=>h2 i Y) e;simp only[Xf,cE]at e;have e:=mQ e;obtain⟨e1,e⟩:=Oi (h1 m Y) (h2 m Y) e;obtain⟨e2,e⟩:=nB e e1;rw[e2]at e
  exact⟨λi hi2=>by
   by_cases hm:i=m;·subst hm;exact e2
   ·exact hi i Y,mQ e⟩
theorem dictI {T T':List Bz}(h1:N T<65536)(h2:N T'<65536)(q1:∀q∈T,N q<65536)(q2:∀q∈T',N q<65536)(e:Ia T=Ia T'):T=T':=by obtain⟨hl,e⟩:=Oi (k:=2) h1 h2 e;refine(fmI (f:=dcB) (P:=λq=>N q<65536) (λx y R R' hx hy e=>?_) hl q1 q2 (R:=[]) (R':=[]) (by simpa using e)).1;simp only[dcB,cE]at e;obtain⟨e1,e⟩:=Oi (k:=2) hx hy e;exact nB e e1
section
variable {T : List Bz} {ix : Bz → Nat}
theorem ixI {q q':Bz}(h:InT T ix q)(h':InT T ix q')(e:ix q=ix q'):q=q':=by rw[←h.2,←h'.2,e]
theorem mapI {α:Type}{g:α→Nat}{w:Nat}{l l':List α}{R R':Bz}(hl:N l=N l')(h1:∀x∈l,g x<256^w)(h2:∀x∈l',g x<256^w)(e:l.flatMap (λx=>Ad w<|g x)++R=l'.flatMap (λx=>Ad w<|g x)++R'):l.map g=l'.map g∧R=R':=by
 have c:∀l:List α,l.flatMap (λx=>Ad w<|g x)=(l.map g).flatMap (Ad w):=λl=>by rw[List.flatMap_map]
 rw[c,c]at e;refine fmI (f:=Ad w) (P:=λn=>n<256^w) (λx y R R' hx hy e=>Oi hx hy e) (by simp[hl]) (λn hn=>?_) (λn hn=>?_) e;·obtain⟨x,hx,rfl⟩:=nJ.1 hn;exact h1 x hx
 ·obtain⟨x,hx,rfl⟩:=nJ.1 hn;exact h2 x hx
def ShP (T:List Bz)(ix:Bz→Nat)(x:PSh):Prop:=InT T ix x.nm∧N x.cs<65536∧∀c∈x.cs,InT T ix c.s∧c.r<256∧c.c<256
theorem clI {cs cs':List PCl}(h1:cs.map (·.r)=cs'.map (·.r))(h2:cs.map (·.c)=cs'.map (·.c))(h3:cs.map (·.s)=cs'.map (·.s)):cs=cs':=by
 induction cs generalizing cs' with
 |nil=>cases cs' with
  |nil=>rfl|cons y r=>cases h1
 |cons x l ih=>cases cs' with
  |nil=>cases h1
  |cons y r=>simp only[jZ,List.cons.injEq]at h1 h2 h3;rw[ih h1.2 h2.2 h3.2];obtain⟨a,b,c⟩:=x;obtain⟨a',b',c'⟩:=y;simp_all
theorem shI (hT:N T≤60000)(x y:PSh)(R R':Bz)(hx:ShP T ix x)(hy:ShP T ix y)(e:shB ix x++R=shB ix y++R'):x=y∧R=R':=by
 obtain⟨x1,x2,x3⟩:=hx;obtain⟨y1,y2,y3⟩:=hy;obtain⟨nm,cs⟩:=x;obtain⟨nm',cs'⟩:=y;simp only[shB,clB,cE]at e x1 x2 x3 y1 y2 y3;obtain⟨e1,e⟩:=Oi (k:=2) (nLl x1.1 (by show N T≤65536;omega)) (nLl y1.1 (by show N T≤65536;omega)) e;have e1:=ixI x1 y1 e1;obtain⟨hl,e⟩:=Oi (k:=2) x2 y2 e;obtain⟨m1,e⟩:=mapI (w:=1) hl (λc hc=>(x3 c hc).2.1) (λc hc=>(y3 c hc).2.1) e;obtain⟨m2,e⟩:=mapI (w:=1) hl (λc hc=>(x3 c hc).2.2) (λc hc=>(y3 c hc).2.2) e;obtain⟨m3,e⟩:=mapI (w:=2) (g:=λc:PCl=>ix c.s) hl (λc hc=>nLl (x3 c hc).1.1 (by show N T≤65536;omega)) (λc hc=>nLl (y3 c hc).1.1 (by show N T≤65536;omega)) e;have m4:∀{cs:List PCl},(∀c∈cs,InT T ix c.s)→(cs.map λc=>ix c.s).map (T.getD · [])=cs.map (·.s):=λ{cs} h=>by rw[List.map_map];exact nF λc hc=>(h c hc).2
 have m5:cs.map (·.s)=cs'.map (·.s):=by rw[←m4 λc hc=>(x3 c hc).1,m3,m4 λc hc=>(y3 c hc).1]
 rw[e1,clI m1 m2 m5];exact⟨Z,e⟩
def RlP (T:List Bz)(ix:Bz→Nat)(r:PRl):Prop:=InT T ix r.f∧(0≤r.a∧r.a<256)∧(0≤r.b∧r.b<256)∧(0≤r.c∧r.c<256)∧(0≤r.d∧r.d<256)∧(0≤r.e∧r.e<256)∧(0≤r.g∧r.g<256)
theorem rlI (hT:N T≤60000)(x y:PRl)(R R':Bz)(hx:RlP T ix x)(hy:RlP T ix y)(e:rbB ix x++R=rbB ix y++R'):x=y∧R=R':=by
 obtain⟨x1,xa,xb,xc,xd,xe,xg⟩:=hx;obtain⟨y1,ya,yb,yc,yd,ye,yg⟩:=hy;obtain⟨a,b,c,d,e',f,g,h⟩:=x;obtain⟨a2,b2,c2,d2,e2,f2,g2,h2⟩:=y;have ex:∀r:PRl,rbB ix r=Ad 1 r.a.toNat++(Ad 1 r.b.toNat++(Ad 1 r.c.toNat++(Ad 1 r.d.toNat++(Ad 1 r.e.toNat++(Ad 2 (ix r.f)++(Ad 1 r.g.toNat++Ad 1 (cond r.h 1 0))))))):=λr=>by simp[rbB,Dz,txB]
 rw[ex,ex]at e;simp only[cE]at e x1 xa xb xc xd xe xg y1 ya yb yc yd ye yg;obtain⟨q1,e⟩:=Oi (k:=1) (by show _<256;omega) (by show _<256;omega) e;obtain⟨q2,e⟩:=Oi (k:=1) (by show _<256;omega) (by show _<256;omega) e;obtain⟨q3,e⟩:=Oi (k:=1) (by show _<256;omega) (by show _<256;omega) e;obtain⟨q4,e⟩:=Oi (k:=1) (by show _<256;omega) (by show _<256;omega) e;obtain⟨q5,e⟩:=Oi (k:=1) (by show _<256;omega) (by show _<256;omega) e;obtain⟨q6,e⟩:=Oi (k:=2) (nLl x1.1 (by show N T≤65536;omega)) (nLl y1.1 (by show N T≤65536;omega)) e;obtain⟨q7,e⟩:=Oi (k:=1) (by show _<256;omega) (by show _<256;omega) e;obtain⟨q8,e⟩:=Oi (k:=1) (by cases h<;>decide) (by cases h2<;>decide) e;have q6:=ixI x1 y1 q6;have q8:h=h2:=by cases h<;>cases h2<;>first|rfl|cases q8
 refine⟨?_,e⟩;simp only[PRl.mk.injEq];exact⟨Y,Y,Y,Y,Y,q6,Y,q8⟩
end
end Go.Abs
namespace Go.Abs
open Go.Proofs Go.RowKit
set_option maxRecDepth 100000
variable {W0 : World} {G : List (Nat × AVal)}
structure BkP (shs:List PSh)(ns:List PNm)(tb:Bool)(rs:List PRl):Prop where
 sl:N shs≤3
 cl:∀x∈shs,N x.cs≤30
 rl:N rs≤4
 tl:N (Dc<|Db shs ns tb rs)≤60
 tq:∀q∈Dc (Db shs ns tb rs),N q≤200
 sh:∀x∈shs,ShP (Dc<|Db shs ns tb rs) (ixN<|Dc<|Db shs ns tb rs) x
 rr:∀r∈rs,RlP (Dc<|Db shs ns tb rs) (ixN<|Dc<|Db shs ns tb rs) r
 bl:∀i,i<5→N (bdG shs ns tb rs i)≤20000
theorem fileI {shs shs':List PSh}{a a' tb tb':Bool}{rs rs':List PRl}(h:BkP shs (Lj a) tb rs)(h':BkP shs' (Lj a') tb' rs')(e:O6 (bdG shs (Lj a) tb rs)=O6 (bdG shs' (Lj a') tb' rs')):shs=shs'∧a=a'∧tb=tb'∧rs=rs':=by
 obtain⟨hb,_⟩:=secI (m:=5) (R:=[]) (R':=[]) (λi hi=>mM (h.bl i hi) V) (λi hi=>mM (h'.bl i hi) V) (by rw[lP,lP];exact mQ e);have b0:Ia _=Ia _:=hb 0 V;have hT:=dictI (mM h.tl V) (mM h'.tl V) (λq hq=>mM (h.tq q hq) V) (λq hq=>mM (h'.tq q hq) V) b0;have b1:Fj _ shs=Fj _ shs':=hb 1 V;have b2:W2 _ _ (Lj a)=W2 _ _ (Lj a'):=hb 2 V;have b3:EW _ tb=EW _ tb':=hb 3 V;have b4:Yv _ _ rs=Yv _ _ rs':=hb 4 V;have h1:=h.sh;have h2:=h.rr;have h3:=h.tl;have h1':=h'.sh;have h2':=h'.rr;rw[←hT]at b1 b2 b3 b4 h1' h2';generalize Dc (Db shs (Lj a) tb rs)=T at*;have sl:=h.sl;have sl':=h'.sl;have rl:=h.rl;have rl':=h'.rl;obtain⟨l1,b1⟩:=Oi (k:=1) (by show N shs<256;omega) (by show N shs'<256;omega) b1;have e1:=(fmI (R:=[]) (R':=[]) (shI (T:=T) Y) l1 h1 h1' (by simpa using b1)).1;rw[jY,jY]at b4;obtain⟨l4,b4⟩:=Oi (k:=1) (by show N rs<256;omega) (by show N rs'<256;omega) b4;have e4:=(fmI (R:=[]) (R':=[]) (rlI (T:=T) Y) l4 h2 h2' (by simpa using b4)).1;refine⟨e1,?_,?_,e4⟩;·simp only[W2,cE]at b2;have:=(Oi (k:=1) (by cases a<;>decide) (by cases a'<;>decide) b2).1;cases a<;>cases a'<;>first|rfl|cases this
 ·have:=(Oi (k:=1) (by cases tb<;>decide) (by cases tb'<;>decide) b3).1;cases tb<;>cases tb'<;>first|rfl|cases this
theorem encD (hk:Kn W0){b:RB}{v:AVal}(h:LB W0 b v):∃shs rs,v=wbV shs (nlN b.nm) (tlT b.tb) rs∧BkP shs (Lj b.nm) b.tb rs∧(∀i,i<5→bdG shs (Lj b.nm) b.tb rs i≠[])∧N (O6<|bdG shs (Lj b.nm) b.tb rs)≤200000∧cP W0 7 [v] [] (aU [S<|O6<|bdG shs (Lj b.nm) b.tb rs,J U 0]) []∧cP W0 8 [S<|O6<|bdG shs (Lj b.nm) b.tb rs] [] (aU [v,J U 0,J U 0]) []:=by
 have hg:=grK hk;have hck:=checkB hk h;obtain⟨n,shs,rs,hn,rfl,hS,h4,hR⟩:=h;have hln:=hS.len;have hmn:=hS.many;have hcl:=hS.ok;refine⟨shs,rs,Z,?_⟩;rw[wbV,nlN_map]at hck⊢;generalize htb:b.tb=tb at hck;generalize hnb:Lj b.nm=ns at hck;have hT:∀s∈Db shs ns tb rs,s≠[]∧N s≤200:=λs hs=>by rw[←hnb]at hs;exact txOK hS hn.2 hR hs
 have hns:N ns≤2∧∀i,i<N ns→∃s:Nat,(ns.getD i pn0).a+1=s∧s<1000:=by
  subst hnb;cases b.nm with
  |false=>exact⟨V,λi hi=>by cases hi⟩
  |true=>exact⟨V,λi hi=>by
   have:i=0∨i=1:=by have:i<2:=hi;omega
   rcases this with rfl|rfl;·exact⟨0,Z,V⟩
   ·exact⟨1,Z,V⟩⟩
 have hna:∀p∈ns,-1≤p.a∧p.a<255:=by
  subst hnb;cases b.nm with
  |false=>intro p hp;cases hp
  |true=>intro p hp;simp only[Lj,cond_true,eS,eY,or_false]at hp;rcases hp with rfl|rfl<;>exact⟨V,V⟩
 have hL:N (Db shs ns tb rs)≤60:=by
  have a1:=PH shs;have a2:N (ns.flatMap nmT)=N ns*2:=by
   have:∀l:List PNm,N (l.flatMap nmT)=N l*2:=λl=>by induction l with|nil=>rfl|cons x r ih=>simp only[lA,lAp,nmT,lCo,lNi]at ih⊢;omega
   exact this ns
  have a3:N (K4 tb)≤3:=by cases tb<;>decide
  have a4:N (rs.flatMap rlT)=N rs:=by
   have:∀l:List PRl,N (l.flatMap rlT)=N l:=λl=>by induction l with|nil=>rfl|cons x r ih=>simp only[lA,lAp,rlT,lCo,lNi]at ih⊢;omega
   exact this rs
  rw[Db,lAp,lAp,lAp];omega
 have hTl:=ST<|Db shs ns tb rs;have hne:∀i,i<N (Dc<|Db shs ns tb rs)→(Dc<|Db shs ns tb rs).getD i []≠[]:=λi hi=>(hT _<|Q7<|C5 hi).1;have hix:∀q,ixN (Dc<|Db shs ns tb rs) q<9223372036854775808:=λq=>by rcases(R4 (ss:=Dc<|Db shs ns tb rs) q).2 with h|h<;>omega
 have hbk:∀n,A8 n (bkT shs ns tb rs)=true:=λn=>by
  have h1:A8 n (tlT tb)=true:=by cases tb<;>rfl
  simp only[A8,blw,Av,Ed,Cj,h1,cond_true]
 have l0:N (bdG shs ns tb rs 0)≤20000:=by have:=RJ (T:=Dc<|Db shs ns tb rs) λs hs=>(hT s<|Q7 hs).2;show N (Ia _)≤_;omega
 have l1:N (bdG shs ns tb rs 1)≤20000:=by show N (Fj _ shs)≤_;rw[FL];omega
 have l2:N (bdG shs ns tb rs 2)≤20000:=by show N (W2 _ _ ns)≤_;rw[W2,lAp,lAp,lAp,Ak,Ee W9,Ee Wj,Ee CD];omega
 have l3:N (bdG shs ns tb rs 3)≤20000:=by
  show N (EW _ tb)≤_;cases tb;·show N (Ad 1 0++[])≤_;decide
  ·show N (Ad 1 1++_)≤_;simp only[lAp,cond_true,Ak,Lc,Ie,lCo,lNi];omega
 have l4:N (bdG shs ns tb rs 4)≤20000:=by show N (Yv _ _ rs)≤_;rw[Yv,lAp,Ak,Ee CK];omega
 have hne5:∀i,i<5→bdG shs ns tb rs i≠[]:=λi hi=>by
  have:i=0∨i=1∨i=2∨i=3∨i=4:=Y;rcases this with rfl|rfl|rfl|rfl|rfl;·simp[bdG,Ia,Ad]
  ·simp[bdG,Fj,Ad]
  ·simp[bdG,W2,Ad]
  ·simp[bdG,EW,Ad]
  ·simp[bdG,Yv,Ad]
 have hsz:∀i,i<5→N (E8++D6 (bdG shs ns tb rs) (i+1))≤200000:=λi hi=>by have z:N (D6 (bdG shs ns tb rs) 0)=0:=rfl;have s0:N (D6 (bdG shs ns tb rs) 1)=_:=Mc 0;have s1:N (D6 (bdG shs ns tb rs) 2)=_:=Mc 1;have s2:N (D6 (bdG shs ns tb rs) 3)=_:=Mc 2;have s3:N (D6 (bdG shs ns tb rs) 4)=_:=Mc 3;have s4:N (D6 (bdG shs ns tb rs) 5)=_:=Mc 4;have hm:N E8=4:=rfl;rw[lAp];have:i=0∨i=1∨i=2∨i=3∨i=4:=Y;rcases this with rfl|rfl|rfl|rfl|rfl<;>simp only[Nat.reduceAdd]<;>omega
 have hf:cP W0 19 [aG<|bkT shs ns tb rs] [] (S<|O6<|bdG shs ns tb rs) []:=by
  refine fileG hg hbk Y (textsG hg Y Y) (λi hi=>bI (hsz i hi) V)<|λi hi=>?_;have:i=0∨i=1∨i=2∨i=3∨i=4:=Y;rcases this with rfl|rfl|rfl|rfl|rfl;·exact⟨48,[aP 1 0],_,_,Z,hne5 0 V,λol=>liftD hbk (λn=>by show cond (A8 n<|Ce _) true false=true;rw[Cf];rfl)<|dictF hg hbk hne<|bI l0 V⟩
  ·exact⟨50,[],_,_,Z,hne5 1 V,λol=>KV hbk<|sheetsP hg (λn=>by have:=hbk n;simp only[A8,blw,Av,cond_true]at this⊢;exact this) (λi hi=>(R4 _).1) (λi hi j hj=>⟨(R4 _).1,by have:=hcl.ok _ (C5 (d:=ps0) hi) _<|C5 (d:=pc0) hj;have:=this.1;omega,by have:=hcl.ok _ (C5 (d:=ps0) hi) _<|C5 (d:=pc0) hj;have:=this.2.1;omega⟩) hix<|bI l1 V⟩
  ·exact⟨51,[],_,_,Z,hne5 2 V,λol=>KV hbk<|namedW hg hbk Y (λi hi=>⟨hns.2 i hi,(R4 _).1,(R4 _).1⟩) hix⟩
  ·exact⟨52,[],_,_,Z,hne5 3 V,λol=>KV hbk<|tablesW hg tb hbk (λs _=>(R4 _).1) hix⟩
  ·exact⟨53,[],_,_,Z,hne5 4 V,λol=>KV hbk (rulesW hg hbk Y (λi hi=>⟨by
   have hr:=hR _<|C5 (d:=rl0) hi;generalize rs.getD i rl0=r at hr;obtain⟨⟨a1,a2⟩,⟨b1,b2⟩,⟨c1,c2⟩,⟨d1,d2⟩,⟨e1,e2⟩,_,g⟩:=hr;have g1:0≤r.g∧r.g<1000:=Y
   exact⟨r.a.toNat,r.b.toNat,r.c.toNat,r.d.toNat,r.e.toNat,r.g.toNat,Y,Y,Y,Y,Y,Y,Y,Y,Y,Y,Y,Y⟩,(R4 _).1⟩) hix)⟩
 have hA:A8 0 [aG<|bkT shs ns tb rs]=true:=by show cond (A8 0<|bkT shs ns tb rs) true false=true;rw[hbk];rfl
 have henc:cP W0 7 [aG<|bkT shs ns tb rs] [] (aU [S<|O6<|bdG shs ns tb rs,J U 0]) []:=by have c1:=λH=>hO (W0:=W0) (P:=gH) hA Z hck H;have c2:=λH=>hO (W0:=W0) (P:=gH) hA Z hf H;refine goW 7 16 0 ?_;refine Wm ?_;exact We
 have hIn:∀q∈Db shs ns tb rs,InT (Dc<|Db shs ns tb rs) (ixN<|Dc<|Db shs ns tb rs) q:=λq hq=>inT_of<|GH hq;have m1:∀q∈Ej shs,q∈Db shs ns tb rs:=λq hq=>by simp only[Db,eG];exact .inl<|.inl<|.inl hq
 have m2:∀q∈ns.flatMap nmT,q∈Db shs ns tb rs:=λq hq=>by simp only[Db,eG];exact .inl<|.inl<|.inr hq
 have m3:∀q∈K4 tb,q∈Db shs ns tb rs:=λq hq=>by simp only[Db,eG];exact .inl<|.inr hq
 have m4:∀q∈rs.flatMap rlT,q∈Db shs ns tb rs:=λq hq=>by simp only[Db,eG];exact .inr hq
 have hT0:0<N (Dc<|Db shs ns tb rs):=by have:(shs.getD 0 ps0).nm∈Ej shs:=mO.2 ⟨_,C5 (d:=ps0) Y,gX ..⟩;exact List.length_pos_of_mem<|GH<|m1 _ this
 have hcs:∀x∈shs,N x.cs≤30:=λx hx=>by
  have:∀l:List PSh,x∈l→N x.cs≤Ef l:=λl=>by
   induction l with
   |nil=>intro h;cases h
   |cons y l ih=>
    intro h;simp only[Ef,jZ,List.sum_cons];rcases eS.1 h with rfl|h;·omega
    ·have:=ih h;simp only[Ef]at this;omega
  have:=this shs hx;omega
 have hra:∀r∈rs,(0≤r.a∧r.a<256)∧(0≤r.b∧r.b<256)∧(0≤r.c∧r.c<256)∧(0≤r.d∧r.d<256)∧(0≤r.e∧r.e<256)∧(0≤r.g∧r.g<256):=λr hr=>by obtain⟨⟨a1,a2⟩,⟨b1,b2⟩,⟨c1,c2⟩,⟨d1,d2⟩,⟨e1,e2⟩,_,g⟩:=hR r hr;have g1:0≤r.g∧r.g<256:=Y;exact⟨Y,Y,Y,Y,Y,g1⟩
 have d0:=dictR (W0:=W0) hg (T:=Dc<|Db shs ns tb rs) (s:=bdG shs ns tb rs 0) Z hT0 Y (λq hq=>bI (hT q<|Q7 hq).2 V) Y;have d1:=sheetsR (W0:=W0) hg (T:=Dc<|Db shs ns tb rs) (ix:=ixN<|Dc<|Db shs ns tb rs) (shs:=shs) (s:=bdG shs ns tb rs 1) Z Y Y Y Y (λq hq=>hIn q<|m1 q hq) (λx hx=>mM (hcs x hx) V) (λx hx c hc=>by have:=hcl.ok x hx c hc;have h1:=this.1;have h2:=this.2.1;omega);have d2:=namesR (W0:=W0) hg (T:=Dc<|Db shs ns tb rs) (ix:=ixN<|Dc<|Db shs ns tb rs) (ns:=ns) (s:=bdG shs ns tb rs 2) (Sx:=shs.map psV) (Av _) (by show W2 _ _ _=_;rw[jY]) Y Y Y (λp hp=>⟨hIn _<|m2 _<|mO.2 ⟨p,hp,by simp[nmT]⟩,hIn _<|m2 _<|mO.2 ⟨p,hp,by simp[nmT]⟩⟩) hna;have d3:=tablesR (W0:=W0) hg (T:=Dc<|Db shs ns tb rs) (ix:=ixN<|Dc<|Db shs ns tb rs) tb (s:=bdG shs ns tb rs 3) (K0:=aR 2<|shs.map psV) (K1:=aR 3<|ns.map nmV) (Av _) (Ed _) Z Y Y<|λq hq=>hIn q<|m3 q hq;have d4:=rulesR (W0:=W0) hg (T:=Dc<|Db shs ns tb rs) (ix:=ixN<|Dc<|Db shs ns tb rs) (rs:=rs) (s:=bdG shs ns tb rs 4) (K0:=aR 2<|shs.map psV) (K1:=aR 3<|ns.map nmV) (K2:=aR 6<|tlT tb) (Av _) (Ed _) (by cases tb<;>rfl) (by show Yv _ _ _=_;rw[jY]) Y Y Y (λr hr=>hIn _<|m4 _<|mO.2 ⟨r,hr,by simp[rlT]⟩) hra;have ht:=takenR (W0:=W0) hg (Av shs) (Ed ns) (show A8 0 (tlT tb)=true by cases tb<;>rfl) (Cj rs) d0 d1 d2 d3 d4;refine⟨⟨Y,hcs,h4,Y,λq hq=>(hT q<|Q7 hq).2,λx hx=>⟨hIn _<|m1 _<|mO.2 ⟨x,hx,gX ..⟩,mM (hcs x hx) V,λc hc=>⟨hIn _<|m1 _<|mO.2 ⟨x,hx,fF _<|List.mem_map_of_mem hc⟩,by have:=(hcl.ok x hx c hc).1;omega,by have:=(hcl.ok x hx c hc).2.1;omega⟩⟩,λr hr=>⟨hIn _<|m4 _<|mO.2 ⟨r,hr,by simp[rlT]⟩,hra r hr⟩,λi hi=>?_⟩,hne5,hsz 4 V,henc,decF (W0:=W0) hg Z (hsz 4 V) (hbk 0) ht henc⟩;have:i=0∨i=1∨i=2∨i=3∨i=4:=Y;rcases this with rfl|rfl|rfl|rfl|rfl<;>assumption
def ZF27 :ACode:=(.seq (.ops [⟨some 4,none,.move (.val (I false))⟩])
 (.seq (.seq (.ops [⟨some 6,none,.move (.tmp 0)⟩,
  ⟨some 7,none,.len false<|.tmp 6⟩,
  ⟨some 8,none,.move<|.tmp 1⟩,
  ⟨some 9,none,.len false<|.tmp 8⟩,
  ⟨some 10,none,.bin .neq none (.tmp 7) (.tmp 9)⟩])
 (.cond (.tmp 10)
  (.seq (.ops [⟨some 4,none,.move (.val (I false))⟩])
  .ret)
  .skip))
 (.seq (.seq (.ops [⟨some 11,none,.move (.tmp 0)⟩,
  ⟨some 12,none,.len false<|.tmp 11⟩,
  ⟨some 13,none,.move (.val (J U 0))⟩])
 (.block 0
  (.loop
   (.seq (.ops [⟨some 14,none,.bin .lss none (.tmp 13) (.tmp 12)⟩])
   (.seq (.cond (.tmp 14)
    .skip
    (.exit 0))
   (.seq (.block 1
    (.seq (.ops [⟨some 15,none,.move (.tmp 13)⟩,
     ⟨some 5,none,.move (.tmp 15)⟩])
    (.seq (.draw [⟨some 16,none,.move (.tmp 0)⟩,
     ⟨some 17,none,.move<|.tmp 5⟩,
     ⟨some 18,none,.idxSl 3 (.tmp 16)<|.tmp 17⟩,
     ⟨some 19,none,.load 3 true<|.tmp 18⟩,
     ⟨some 20,none,.move<|.tmp 1⟩,
     ⟨some 21,none,.move<|.tmp 5⟩,
     ⟨some 22,none,.idxSl 3 (.tmp 20)<|.tmp 21⟩,
     ⟨some 23,none,.load 3 true<|.tmp 22⟩,
     ⟨some 24,none,.eqs true (.cons 0 1 false .i (.cons 1 1 false .i (.cons 2 1 false .s .nil))) (.tmp 19) (.tmp 23)⟩])
    (.cond (.tmp 24)
     (.seq (.ops [⟨some 4,none,.move (.val (I false))⟩])
     .ret)
     .skip))))
   (.ops [⟨some 25,none,.bin .add none (.tmp 13) (.val (J U 1))⟩,
    ⟨some 13,none,.move (.tmp 25)⟩])))))))
 (.seq (.ops [⟨some 4,none,.move (.val (I true))⟩])
 .ret))))
theorem ZG27 :Gs gH 25=some ⟨ZF27,[.tmp 4],26⟩:=Ar
def ZF33 :ACode:=(.seq (.ops [⟨some 4,none,.move (.val (I false))⟩])
 (.seq (.seq (.ops [⟨some 6,none,.move (.tmp 0)⟩,
  ⟨some 7,none,.len false<|.tmp 6⟩,
  ⟨some 8,none,.move<|.tmp 1⟩,
  ⟨some 9,none,.len false<|.tmp 8⟩,
  ⟨some 10,none,.bin .neq none (.tmp 7) (.tmp 9)⟩])
 (.cond (.tmp 10)
  (.seq (.ops [⟨some 4,none,.move (.val (I false))⟩])
  .ret)
  .skip))
 (.seq (.seq (.ops [⟨some 11,none,.move (.tmp 0)⟩,
  ⟨some 12,none,.len false<|.tmp 11⟩,
  ⟨some 13,none,.move (.val (J U 0))⟩])
 (.block 0
  (.loop
   (.seq (.ops [⟨some 14,none,.bin .lss none (.tmp 13) (.tmp 12)⟩])
   (.seq (.cond (.tmp 14)
    .skip
    (.exit 0))
   (.seq (.block 1
    (.seq (.ops [⟨some 15,none,.move (.tmp 13)⟩,
     ⟨some 5,none,.move (.tmp 15)⟩])
    (.seq (.draw [⟨some 16,none,.move (.tmp 0)⟩,
     ⟨some 17,none,.move<|.tmp 5⟩,
     ⟨some 18,none,.idxSl 8 (.tmp 16)<|.tmp 17⟩,
     ⟨some 19,none,.load 8 true<|.tmp 18⟩,
     ⟨some 20,none,.move<|.tmp 1⟩,
     ⟨some 21,none,.move<|.tmp 5⟩,
     ⟨some 22,none,.idxSl 8 (.tmp 20)<|.tmp 21⟩,
     ⟨some 23,none,.load 8 true<|.tmp 22⟩,
     ⟨some 24,none,.eqs true (.cons 0 5 true (.cons 0 1 false .i (.cons 1 1 false .i (.cons 2 1 false .i (.cons 3 1 false .i (.cons 4 1 false .i .nil))))) (.cons 5 1 false .s (.cons 6 1 false .i (.cons 7 1 false .b .nil)))) (.tmp 19) (.tmp 23)⟩])
    (.cond (.tmp 24)
     (.seq (.ops [⟨some 4,none,.move (.val (I false))⟩])
     .ret)
     .skip))))
   (.ops [⟨some 25,none,.bin .add none (.tmp 13) (.val (J U 1))⟩,
    ⟨some 13,none,.move (.tmp 25)⟩])))))))
 (.seq (.ops [⟨some 4,none,.move (.val (I true))⟩])
 .ret))))
theorem ZG33 :Gs gH 31=some ⟨ZF33,[.tmp 4],26⟩:=Ar
theorem DH {α:Type}{l l':List α}{i:Nat}(d:α)(h:i<N l)(h':i<N l')(ht:l.take i=l'.take i)(he:l.getD i d=l'.getD i d):l.take (i+1)=l'.take (i+1):=by rw[lK h,lK h',ht];rw[eZ,eZ,gGe h,gGe h',mJ,mJ]at he;rw[he]
theorem Yx {b:Bool}{p:Prop}(hb:b=true↔p)(h:¬p):false=b:=by cases b with|false=>rfl|true=>exact absurd (hb.1 rfl) h
theorem CN (p:Prop):∃b:Bool,b=true↔p:=by
 by_cases h:p;·exact⟨true,by simp[h]⟩
 ·exact⟨false,by simp[h]⟩
theorem blwPs {x:PSh}:blw 0 (psV x)=true:=by show cond (A8 0<|x.cs.map pcV) true false=true;rw[B8];rfl
theorem eqCells (hg:hGr W0 G){l l':List PCl}(hl:N l≤1000000){b:Bool}(hb:b=true↔l=l'):cP W0 25 [aR 3<|l.map pcV,aR 3<|l'.map pcV] [] (I b) []:=by
 have e1:N (l.map pcV)=N l:=jY _;have e2:N (l'.map pcV)=N l':=jY _;refine A5.fnW 26 0 ZG27 ?_;unfold ZF27;by_cases hn:N l=N l'
 ·refine Wm ?_;refine lZ (σ:=Nat) (τ:=Unit) (λi=>⟨.al [(0,aR 3<|l.map pcV),(1,aR 3<|l'.map pcV),(12,J U<|N l),(13,J U i)],[],26⟩) (λi=>i≤N l∧l.take i=l'.take i) (λi=>N l-i) 0 (λ_=>⟨.al [],[],26⟩) (λ_=>b=true) (B6 0 frN<|fzC Z (Aq<|B8 l)<|fzC Z (Aq<|B8 l')<|fzC Z (I7 (by rw[e1]))<|fI fzN) ⟨hZ _,Z⟩ ?_ ?_
  ·intro i ⟨hi,ht⟩;by_cases hlt:i<N l
   ·by_cases he:l.getD i pc0=l'.getD i pc0;·refine Wm ?_;refine kD ?_;refine vQ Z<|vQ Z<|Ao (Dn (f:=pcV) (d:=pc0) Z Z Z hlt) Z K7<|vQ Z<|vQ Z<|vQ Z<|Ao (Dn (f:=pcV) (d:=pc0) Z Z Z (Y:i<N l')) Z K7<|vQ Z<|qBk (c:=false) Z Z (by rw[he];simp)<|Dx ?_;refine Wm ?_;exact hoN (i+1) ⟨hlt,DH pc0 hlt Y ht he⟩ Y (B6 0 frN<|fzC Z (Aq<|B8 l)<|fzC Z (Aq<|B8 l')<|fI<|fI fzN)
    ·refine Wm ?_;refine kD ?_;refine vQ Z<|vQ Z<|Ao (Dn (f:=pcV) (d:=pc0) Z Z Z hlt) Z K7<|vQ Z<|vQ Z<|vQ Z<|Ao (Dn (f:=pcV) (d:=pc0) Z Z Z (Y:i<N l')) Z K7<|vQ Z<|qBk (c:=true) Z Z ?_<|Dx ?_;·generalize l.getD i pc0=x at he;generalize l'.getD i pc0=y at he;obtain⟨r,c,s⟩:=x;obtain⟨r',c',s'⟩:=y;simp only[PCl.mk.injEq,not_and]at he;by_cases h1:r=r'<;>by_cases h2:c=c'<;>by_cases h3:s=s'<;>simp_all<;>omega
     refine Wm ?_;obtain rfl:=Yx hb λh=>he (by rw[h]);exact hoR<|A6 O Z Z Z
   ·have he:i=N l:=by omega
    subst he;refine Wm ?_;exact hoE () (hb.2 (by rw[lL]at ht;rw[ht,hn,lL]))<|B6 0 frN fzN
  intro _ hbt;have hbt:b=true:=hbt;subst hbt;refine Wm ?_;exact We
 ·obtain rfl:=Yx hb λh=>hn (by rw[h]);refine Wm ?_;exact We
theorem eqRules (hg:hGr W0 G){l l':List PRl}(hl:N l≤1000000){b:Bool}(hb:b=true↔l=l'):cP W0 31 [aR 8<|l.map rlV,aR 8<|l'.map rlV] [] (I b) []:=by
 have e1:N (l.map rlV)=N l:=jY _;have e2:N (l'.map rlV)=N l':=jY _;refine A5.fnW 26 0 ZG33 ?_;unfold ZF33;by_cases hn:N l=N l'
 ·refine Wm ?_;refine lZ (σ:=Nat) (τ:=Unit) (λi=>⟨.al [(0,aR 8<|l.map rlV),(1,aR 8<|l'.map rlV),(12,J U<|N l),(13,J U i)],[],26⟩) (λi=>i≤N l∧l.take i=l'.take i) (λi=>N l-i) 0 (λ_=>⟨.al [],[],26⟩) (λ_=>b=true) (B6 0 frN<|fzC Z (Aq<|Cj l)<|fzC Z (Aq<|Cj l')<|fzC Z (I7 (by rw[e1]))<|fI fzN) ⟨hZ _,Z⟩ ?_ ?_
  ·intro i ⟨hi,ht⟩;by_cases hlt:i<N l
   ·by_cases he:l.getD i rl0=l'.getD i rl0;·refine Wm ?_;refine kD ?_;refine vQ Z<|vQ Z<|Ao (Dn (f:=rlV) (d:=rl0) Z Z Z hlt) Z K7<|vQ Z<|vQ Z<|vQ Z<|Ao (Dn (f:=rlV) (d:=rl0) Z Z Z (Y:i<N l')) Z K7<|vQ Z<|qBk (c:=false) Z Z (by rw[he];simp)<|Dx ?_;refine Wm ?_;exact hoN (i+1) ⟨hlt,DH rl0 hlt Y ht he⟩ Y (B6 0 frN<|fzC Z (Aq<|Cj l)<|fzC Z (Aq<|Cj l')<|fI<|fI fzN)
    ·refine Wm ?_;refine kD ?_;refine vQ Z<|vQ Z<|Ao (Dn (f:=rlV) (d:=rl0) Z Z Z hlt) Z K7<|vQ Z<|vQ Z<|vQ Z<|Ao (Dn (f:=rlV) (d:=rl0) Z Z Z (Y:i<N l')) Z K7<|vQ Z<|qBk (c:=true) Z Z ?_<|Dx ?_;·generalize l.getD i rl0=x at he;generalize l'.getD i rl0=y at he;simp only[cond_true,Bool.not_eq_true'];refine(Bool.eq_false_iff).2 λh=>he ?_;obtain⟨a,b,c,d,e,f,g,h⟩:=x;obtain⟨a',b',c',d',e',f',g',h'⟩:=y;simp_all
     refine Wm ?_;obtain rfl:=Yx hb λh=>he (by rw[h]);exact hoR<|A6 O Z Z Z
   ·have he:i=N l:=by omega
    subst he;refine Wm ?_;exact hoE () (hb.2 (by rw[lL]at ht;rw[ht,hn,lL]))<|B6 0 frN fzN
  intro _ hbt;have hbt:b=true:=hbt;subst hbt;refine Wm ?_;exact We
 ·obtain rfl:=Yx hb λh=>hn (by rw[h]);refine Wm ?_;exact We
theorem eqSheet (hg:hGr W0 G){x y:PSh}(hl:N x.cs≤1000000){b:Bool}(hb:b=true↔x=y):cP W0 24 [psV x,psV y] [] (I b) []:=by
 obtain⟨c,hc⟩:=CN<|x.cs=y.cs;have h:=λH=>hO (W0:=W0) (P:=gH) (by show cond (A8 0<|x.cs.map pcV) (cond (A8 0<|y.cs.map pcV) true false) false=true;rw[B8,B8];rfl) Z (eqCells hg hl hc) H;obtain⟨nm,cs⟩:=x;obtain⟨nm',cs'⟩:=y;refine goW 24 17 0 ?_;by_cases hn:nm=nm';·have e:b=c:=Bool.eq_iff_iff.2 (by rw[hb,hc];simp[hn]);subst e hn;refine Wm ?_;refine mT Z ?_ (hb:=by simp);refine Wm ?_;exact We
 ·obtain rfl:=Yx hb λh=>hn (by injection h);exact We
theorem TY (hg:hGr W0 G){l l':List PSh}(hl:N l≤1000000)(hc:∀x∈l,N x.cs≤1000000){b:Bool}(hb:b=true↔l=l'):cP W0 28 [aR 2<|l.map psV,aR 2<|l'.map psV,.fn 24 [] []] [] (I b) []:=by
 have e1:N (l.map psV)=N l:=jY _;have e2:N (l'.map psV)=N l':=jY _;refine goW 28 32 0 ?_;by_cases hn:N l=N l'
 ·refine Wm ?_;refine lZ (σ:=Nat) (τ:=Unit) (λi=>⟨.al [(1,aR 2<|l'.map psV),(2,.fn 24 [] []),(15,aR 2<|l.map psV),(16,J U<|N l),(17,J U i)],[],32⟩) (λi=>i≤N l∧l.take i=l'.take i) (λi=>N l-i) 0 (λ_=>⟨.al [],[],32⟩) (λ_=>b=true) (B6 0 frN<|fzC Z (Aq<|Av l')<|fzC Z (Aq Z)<|fzC Z (Aq<|Av l)<|fzC Z (I7 (by rw[e1]))<|fI fzN) ⟨hZ _,Z⟩ ?_ ?_
  ·intro i ⟨hi,ht⟩;by_cases hlt:i<N l
   ·obtain⟨c,hcc⟩:=CN<|l.getD i ps0=l'.getD i ps0;have h:=λH=>hO (W0:=W0) (P:=gH) (by show cond (blw 0<|psV _) (cond (blw 0<|psV _) true false) false=true;rw[blwPs,blwPs];rfl) Z (eqSheet hg (hc _<|C5 (d:=ps0) hlt) hcc) H;refine Wm ?_;refine mS (Dn (f:=psV) (d:=ps0) Z Z Z hlt) ?_ (hs:=by simp only[Ah,and_true];omega);refine Wm ?_;refine mS (Dn (f:=psV) (d:=ps0) Z Z Z (Y:i<N l')) ?_ (hs:=by simp only[Ah,and_true];omega);refine Wm ?_;cases c with
    |true=>refine Wm ?_;exact hoN (i+1) ⟨hlt,DH ps0 hlt Y ht<|hcc.1 Z⟩ Y<|B6 0 frN<|fzC Z (Aq<|Av l')<|fzC Z (Aq Z)<|fzC Z (Aq<|Av l)<|fI<|fI fzN
    |false=>
     refine Wm ?_;obtain rfl:=Yx hb λh=>by have:=hcc.2 (by rw[h]);cases this
     exact hoR<|A4 O Z Z 100 Z Z
   ·have he:i=N l:=by omega
    subst he;refine Wm ?_;exact hoE () (hb.2 (by rw[lL]at ht;rw[ht,hn,lL]))<|B6 0 frN fzN
  intro _ hbt;have hbt:b=true:=hbt;subst hbt;refine Wm ?_;exact We
 ·obtain rfl:=Yx hb λh=>hn (by rw[h]);refine Wm ?_;exact We
end Go.Abs
namespace Go.Abs
open Go.Proofs Go.RowKit
set_option maxRecDepth 10000000
variable {W0 : World} {G : List (Nat × AVal)}
theorem eqNames (hk:Kn W0)(a b:Bool):cP W0 29 [aR 3<|nlN a,aR 3<|nlN b] [] (I<|a==b) []:=by cases a<;>cases b<;>exact cK hk
theorem RH (hk:Kn W0)(a b:Bool):cP W0 30 [aR 6<|tlT a,aR 6<|tlT b,.fn 26 [] []] [] (I<|a==b) []:=by cases a<;>cases b<;>exact cK hk
set_option maxHeartbeats 4000000 in
theorem sameB (hk:Kn W0){shs shs':List PSh}{n n' t t':Bool}{rs rs':List PRl}(hl:N shs≤1000000)(hc:∀x∈shs,N x.cs≤1000000)(hr:N rs≤1000000){b:Bool}(hb:b=true↔shs=shs'∧n=n'∧t=t'∧rs=rs'):
 cP W0 9 [wbV shs (nlN n) (tlT t) rs,wbV shs' (nlN n') (tlT t') rs'] [] (I b) []:=by
 have hg:=grK hk;obtain⟨c1,h1⟩:=CN<|shs=shs';obtain⟨c4,h4⟩:=CN<|rs=rs';have n0:∀x:Bool,A8 0 (nlN x)=true:=λx=>by cases x<;>rfl
 have t0:∀x:Bool,A8 0 (tlT x)=true:=λx=>by cases x<;>rfl
 have two:∀(a b:List AVal) (r:List AVal) (j k:Nat),A8 0 a=true→A8 0 b=true→A8 0 r=true→A8 0 (aR j a::aR k b::r)=true:=λa b r j k ha hb hr=>by show cond (A8 0 a) (cond (A8 0 b) (A8 0 r) false) false=true;rw[ha,hb,hr];rfl
 have q1:=λH=>A5.pure (W0:=W0) (P:=Tryz.prog) (two _ _ _ 2 2 (Av shs) (Av shs') Z) Z (TY hg hl hc h1) H;have q2:=λH=>A5.pure (W0:=W0) (P:=Tryz.prog) (two _ _ _ 3 3 (n0 n) (n0 n') Z) Z (eqNames hk n n') H;have q3:=λH=>A5.pure (W0:=W0) (P:=Tryz.prog) (two _ _ _ 6 6 (t0 t) (t0 t') Z) Z (RH hk t t') H;have q4:=λH=>A5.pure (W0:=W0) (P:=Tryz.prog) (two _ _ _ 8 8 (Cj rs) (Cj rs') Z) Z (eqRules hg hr h4) H;refine goW 9 35 0 ?_;cases c1 with
 |false=>
  obtain rfl:=Yx hb λh=>by have:=h1.2 h.1;cases this
  refine Wm ?_;exact We
 |true=>
  have e1:=h1.1 Z;by_cases e2:n=n'
  ·by_cases e3:t=t';·have hcb:b=c4:=Bool.eq_iff_iff.2 (by rw[hb,h4];simp[e1,e2,e3]);subst hcb e2 e3;rw[beq_self_eq_true]at q2 q3;exact We
   ·obtain rfl:=Yx hb λh=>e3 h.2.2.1;subst e2;rw[beq_self_eq_true]at q2;rw[beq_eq_false_iff_ne.2 e3]at q3;exact We
  ·obtain rfl:=Yx hb λh=>e2 h.2.1;rw[beq_eq_false_iff_ne.2 e2]at q2;exact We
end Go.Abs
namespace Go.Abs
open Go.Proofs Go.RowKit
set_option maxRecDepth 100000
variable {W0 : World} {G : List (Nat × AVal)}
theorem entP {e:Ent}(h:Dh gH W0 e)(H:Hz):cP W0 e.f e.args H e.v H:=hO h.1 h.2.1 h.2.2 H
theorem sumA0 (hk:Kn W0)(H:Hz):cP W0 12 [S []] H (J U 1) H:=hO Z Z (Jg hk Dw 60 _ _ _ _ _ (show Qv [] 60 12 [S []] []=some (J U 1,[])by kernel_rfl)) H
theorem sumB0 (hk:Kn W0)(H:Hz):cP W0 12 [S [65]] H (J U 323) H:=hO Z Z (Jg hk Dw 60 _ _ _ _ _ (show Qv [] 60 12 [S [65]] []=some (J U 323,[])by kernel_rfl)) H
theorem awakeP (hk:Kn W0)(hg:hGr W0 G):cP W0 5 [] [] (I true) []:=by refine goM 5 97 ?_;refine sO<|x1 Z<|sO<|mV Z<|mV (v:=aH 2 0 0 1<|some 1) Z<|mV Z ?_;refine mFz (s1:=⟨.al [(17,bkA)],[],97⟩) (As 0 Z (hZ _) Z Z<|fzC Z (.inl ⟨20,Z⟩) fzN) ?_;refine mV (v:=aP 0 0) Z<|Ai hg gN Z<|mn<|sO<|mV (v:=bkA) Z<|mC Z (entP (awk0 hk) _)<|mV Z<|x4 Z Z Z Z<|sO<|mV Z<|mC Z (entP (awk2 hk) _)<|m4 Z Z Z Z<|mV (v:=aP 1 0) Z<|Ai hg gN Z<|x2 Z Z<|sO<|mV (v:=bkZ) Z<|mC Z (entP (awk3 hk) _)<|mV Z<|x4 Z Z Z Z<|sO<|mC Z (hO Z Z (decX hk hg) _)<|m4 Z Z Z Z<|mV (v:=aP 2 0) Z<|Ai hg gN Z<|x2 Z Z<|sO<|mC Z (hO Z Z (decY hk hg) _)<|m4 Z Z Z Z<|mV (v:=aP 3 0) Z<|Ai hg gN Z<|x2 Z Z<|sO<|mV Z<|mBk hg gN (c:=true) Z Z Z<|mBk hg gN (c:=true) Z Z Z<|mV Z<|mV (v:=J U 62) Z<|mBk hg (gS Z) (c:=true) Z Z Z<|mBk hg gN (c:=true) Z Z Z<|mBk hg gN (c:=true) Z Z Z<|mV Z<|Ac hg (gS Z) (v:=S [84,66,76,49]) Z Z (by simp[Bl,Ah,R1])<|mBk hg (gS Z) (c:=true) Z Z Z<|mBk hg gN (c:=true) Z Z Z<|mBk hg gN (c:=true) Z Z Z<|mV Z<|mBk hg (gS Z) (c:=true) Z Z Z<|mBk hg gN (c:=true) Z Z Z<|mBk hg gN (c:=true) Z Z Z<|mV Z<|mBk hg (gS Z) (c:=true) Z Z Z<|mBk hg gN (c:=true) Z Z Z<|mBk hg gN (c:=true) Z Z Z<|mV (v:=bkA) Z<|mV (v:=bkB) Z<|Hv hg (gS Z) (c:=true) Z Z (entP (awk4 hk) _) Z<|mBk hg gN (c:=true) Z Z Z<|mBk hg gN (c:=true) Z Z Z<|mV Z<|mBk hg (gS Z) (c:=true) Z Z Z<|mBk hg gN (c:=true) Z Z Z<|mBk hg gN (c:=true) Z Z Z<|mV Z<|mBk hg (gS Z) (c:=true) Z Z Z<|mBk hg gN (c:=true) Z Z Z<|mBk hg gN (c:=true) Z Z Z<|mV Z<|mBk hg (gS Z) (c:=true) Z Z Z<|mBk hg gN (c:=true) Z Z Z<|mBk hg gN (c:=true) Z Z Z<|mV Z<|mBk hg (gS Z) (c:=true) Z Z Z<|mBk hg gN (c:=true) Z Z Z<|mBk hg gN (c:=true) Z Z Z<|mV Z<|mBk hg (gS Z) (c:=true) Z Z Z<|mBk hg gN (c:=true) Z Z Z<|mBk hg gN (c:=true) Z Z Z<|mC Z (sumA0 hk _)<|mBk hg (gS Z) (c:=true) Z Z Z<|mBk hg gN (c:=true) Z Z Z<|mBk hg gN (c:=true) Z Z Z<|mC Z (sumB0 hk _)<|mBk hg (gS Z) (c:=true) Z Z Z<|mBk hg gN (c:=true) Z Z Z<|x1 Z ?_;exact ExM.ret<|pL
end Go.Abs
namespace Go.Abs
open Go.Proofs Go.RowKit
set_option maxRecDepth 100000
set_option maxHeartbeats 4000000
variable {W0 : World} {G : List (Nat × AVal)}
theorem Ti {b:RB}{v:AVal}(h:LB W0 b v):blw 0 v=true:=by
 obtain⟨n,shs,rs,_,rfl,_⟩:=h;have h1:A8 0 (nlN b.nm)=true:=by cases b.nm<;>rfl
 have h2:A8 0 (tlT b.tb)=true:=by cases b.tb<;>rfl
 simp_all[wbV,blw,A8,Av,Cj]
theorem DG {v:AVal}(h:blw 0 v=true){r:List AVal}(hr:A8 0 r=true):A8 0 (v::r)=true:=by show cond (blw 0 v) (A8 0 r) false=true;rw[h,hr];rfl
theorem packBack (hk:Kn W0){b b':RB}(hb:OO b)(hb':OO b'):cP W0 3 [aG<|rbL b,aG<|rbL b'] [] (I true) []:=by
 have hg:=grK hk;have haw:=λH=>hO (W0:=W0) (P:=gH) Z Z (awakeP hk hg) H;refine goW 3 67 0 ?_;refine Wm ?_;refine C4 hg gN Z Z (DG (v:=aG<|rbL b) Bq Z) (bookE hk hb) (λv hv=>Ti hv)<|λv hv=>?_;have hc:=Ti hv;obtain⟨shs,rs,e,hP,_,_,henc,hdec⟩:=encD hk hv;obtain⟨k0,k1,k2,k3,rfl⟩:∃k0 k1 k2 k3,v=aG [aR 2 k0,aR 3 k1,aR 6 k2,aR 8 k3]:=⟨_,_,_,_,e⟩;refine Wm ?_;refine C4 hg gN Z Z (DG (v:=aG<|rbL b') Bq Z) (bookE hk hb') (λv hv=>Ti hv)<|λv' hv'=>?_;have hc':=Ti hv';obtain⟨shs',rs',e',hP',_,_,henc',hdec'⟩:=encD hk hv';obtain⟨j0,j1,j2,j3,rfl⟩:∃k0 k1 k2 k3,v'=aG [aR 2 k0,aR 3 k1,aR 6 k2,aR 8 k3]:=⟨_,_,_,_,e'⟩;have s1:=sameB hk (shs:=shs) (shs':=shs) (n:=b.nm) (n':=b.nm) (t:=b.tb) (t':=b.tb) (rs:=rs) (rs':=rs) (b:=true) (by have:=hP.sl;omega) (λx hx=>by have:=hP.cl x hx;omega) (by have:=hP.rl;omega) (by simp);have s2:=λc hcc=>sameB hk (shs:=shs) (shs':=shs') (n:=b.nm) (n':=b'.nm) (t:=b.tb) (t':=b'.tb) (rs:=rs) (rs':=rs') (b:=c) (by have:=hP.sl;omega) (λx hx=>by have:=hP.cl x hx;omega) (by have:=hP.rl;omega) hcc;rw[←e]at s1;rw[←e,←e']at s2;have key:O6 (bdG shs (Lj b.nm) b.tb rs)=O6 (bdG shs' (Lj b'.nm) b'.tb rs')↔shs=shs'∧b.nm=b'.nm∧b.tb=b'.tb∧rs=rs':=⟨fileI hP hP',λ⟨a1,a2,a3,a4⟩=>by rw[a1,a2,a3,a4]⟩;generalize O6 (bdG shs (Lj b.nm) b.tb rs)=t at henc hdec key;generalize O6 (bdG shs' (Lj b'.nm) b'.tb rs')=t' at henc' hdec' key;have s2:=λc (hcc:(t==t')=c)=>s2 c (by rw[←key,←hcc];exact beq_iff_eq);clear key e e';have c1:=λH=>hO (W0:=W0) (P:=gH) (DG hc Z) Z henc H;have c2:=λH=>hO (W0:=W0) (P:=gH) (DG hc' Z) Z henc' H;have c3:=λH=>hO (W0:=W0) (P:=gH) Z (show blw 0 (aU _)=true from DG hc Z) hdec H;have c4:=λH=>hO (W0:=W0) (P:=gH) (DG hc<|DG hc Z) Z s1 H;have c5:=λc hcc H=>hO (W0:=W0) (P:=gH) (DG hc<|DG hc' Z) Z (s2 c hcc) H;clear s1 s2 henc henc' hdec hdec';cases htt:(t==t');all_goals
  have c6:=c5 _ htt;clear c5;refine Wm ?_;refine mKs Z (congrArg I htt) ?_;exact We
end Go.Abs
namespace Go.Proofs.YtlfcfgbbhlgocaaGreatDoor.packBack
open Go.Abs Go.Shelf Go.ChangeShapes Go.WideShapes Go.ChangeAt Go.RowKit
set_option maxRecDepth 100000
theorem own :ownKnob gH.godebug=none:=by kernel_rfl
theorem PC (H:Type)(enc:TypeId×Value→H)(W:World)(base:Nat)(args:Array Value)(ds gs:List<|DataW H)(before:List MemPlace)
 (hval:∀(j:Nat) t v,nK.params[j]?=some t→args[j]?=some v→Value.okWide gH W .any base t v)
 (hW:DataW.Whole enc gH nK.params.toList Rows.packBackSpec.vars false W args.toList ds gs before) (hR:(DataW.weightsEach gH (nK.params.toList++(OpenSpec.ofChange Rows.packBackSpec).bare.plain.varTypes gH)<|ds++gs).all (· ≤reachBytes)=true) (hL:laidMetH gH Rows.packBackRow.laid W) (hS:W.ShapedOpen gH):
 Calls gH 3 args W λe W'=>∃v,e= .returned v∧Rows.packBackSpec.post enc gH nK false true false false W args v W':=by
 have hW':=hW;obtain⟨p,q,hA0,hV,rfl,hfz,hnd⟩:=hW;have hA:DataW.TrodAll enc gH W 0 (λ_=>true) true nK.params.toList args.toList ds p:=hA0;have hk:Kn W:=kn_laid (show laidMet gH Rows.packCutRow.laid W from hL) hS;rw[mZ]at hA hval;obtain⟨v0,vs0,d0,ds0,p0,q0,hargs,rfl,rfl,h0,r0⟩:=trodAll_cons hA;obtain⟨v1,vs1,d1,ds1,p1,q1,rfl,rfl,rfl,h1,r1⟩:=trodAll_cons r0;obtain⟨rfl,rfl,rfl⟩:=trodAll_nil r1;obtain rfl:args= #[v0,v1]:=by cases args;simp_all
 obtain⟨rfl,rfl⟩:=trodVars_none hV;have o0:=hval 0 24 v0 rfl rfl;have o1:=hval 1 24 v1 rfl rfl;have hwt0:∀k,k∈d0.weights gH 24→k≤reachBytes:=λk hkk=>by have h3:=eB.1 hR _<|lG (j:=0) (by rw[mZ];rfl) rfl _ hkk;exact of_decide_eq_true h3
 have hwt1:∀k,k∈d1.weights gH 24→k≤reachBytes:=λk hkk=>by have h3:=eB.1 hR _<|lG (j:=1) (by rw[mZ];rfl) rfl _ hkk;exact of_decide_eq_true h3
 obtain⟨b,hb,rb⟩:=KW o0 h0 hwt0;obtain⟨b',hb',rb'⟩:=KW o1 h1 hwt1;have walk:=Go.Abs.packBack hk hb hb';have hh:Ae W (λ_=>False) [] [] W:=⟨rfl,Below.refl _ _,λb hb=>by simp at hb,List.nodup_nil,λb hb=>hb.elim,λi o b hi=>by simp at hi⟩;have hlt:∀x∈p0++p1,x.block<W.heap.size:=λx hx=>by have:=hW'.lt x (by simp only[lP,eG]at hx⊢;exact hx);simpa using this
 refine(walk.2 (λ_=>False) [] W [v0,v1] hh ?_).mono ?_;·exact⟨_,_,rfl,rb,_,_,rfl,rb',rfl⟩
 ·rintro e W' ⟨cv,bs',rfl,hr,hbase,hx2⟩;obtain rfl:cv= .bool true:=by simpa only[Rep]using hr
  refine⟨_,rfl,_,_,_,[],p0++p1,[],hW',?_,?_,?_,hbase.base.frame _,λh=>by cases h⟩;·exact trodAll_mk1<|shut_bool Tryz.underlying4 _
  ·rw[mZ];exact trodAll_mk2 (Below.trod LV (by kernel_rfl) (of_decide_eq_true (by kernel_rfl)) h0 hbase.base λx hx=>hlt x<|List.mem_append_left _ hx)<|Below.trod LV (by kernel_rfl) (of_decide_eq_true (by kernel_rfl)) h1 hbase.base λx hx=>hlt x<|List.mem_append_right _ hx
  ·rfl
end Go.Proofs.YtlfcfgbbhlgocaaGreatDoor.packBack
