/- A part of the proof that tabula/tabulalaw25.PackCut returns true for every input, each argument reading as it did (its card: the last text). No conditions of its own. -/
import Derived.Test.YtlfcfgbbhlgocaaGreatDoorRJ
set_option linter.unusedVariables false
set_option linter.unusedSimpArgs false
set_option maxHeartbeats 4000000
open List renaming length->N
open Go.Abs.AVal renaming int->J,str->S,bool->I,ptr->aP,row->aR,tup->aU,agg->aG,hsl->aH,nilSl->aN,eptr->aE
open Go.Abs.HObj renaming cells->C
open Go.IntKind renaming i64->U,i8->z8
open BitVec renaming ofInt->cI,ofInt_natCast->nL,toNat_ofNat->nP
open Bool renaming and_self->kC
open Go.Abs.A5 renaming pure->gW,of_rec2->nK
open Go.Abs.ExM renaming draw1->nD,seq->iO,drawC->kH,ops->iM
open Go.Abs.ExP renaming seqR->mL,seqL->mM,ops->mR,block->mU
open Go.Abs.SP renaming mayB->jR
open Go.DataW renaming weights_mem_each->lG
open Go.Lib renaming compactUpTo->gI
open Go.Proofs.Tryz renaming prog->gH,func8->nF,params4->nI,underlying9->lE,f8->nJ,f4->nR
open Go.RowKit.Below renaming trod->nS
open List renaming getD_eq_getElem?_getD->eZ,take_of_length_le->bU,append_nil->lP,getElem?_eq_some_iff->aC,take_append->mN,take_succ_eq_append_getElem->lK,mem_flatMap->mQ,mem_append->eG,length_take->lW,append_assoc->cE,getElem?_append_right->mW,getElem?_cons_succ->eT,ext_getElem?->mX,flatMap_cons->lA,getElem?_eq_none->mY,mem_append_right->mZ,foldl_cons->nA,length_map->jY,take_append_of_le_length->nB,length_pos_iff->nC,map_cons->jZ,mem_cons->eS,getElem?_map->nE,drop_eq_getElem_cons->fQ,getElem?_take_of_lt->nG,mem_cons_of_mem->fF,getElem?_of_mem->eX,mem_append_left->nM,getElem?_range->nN,mem_cons_self->gY,not_mem_nil->eY,all_eq_true->eB,range->eD
open Nat renaming beq->aA,mod_eq_of_lt->mP,le_refl->bC,zero_le->iH,zero_add->bS,beq_refl->fY,lt_or_ge->nH,le_trans->bI,zero_mul->cJ,mul_comm->fO,add_mul->bE,blt->bB,ble->bK
open Option renaming getD_some->mO,map_some->bQ
open UInt8 renaming toNat_ofNat'->nO
namespace Go.Abs
open Go.Proofs Go.RowKit
set_option maxRecDepth 100000
variable {W0 : World}
def cc122 (H:Hz):List AVal→Option (AVal×Hz)
 | [aP id 0]=>match H[id]? with
  |some (C T (.nilPtr::r) false)=>cond (aA T 109&&aA (N r) 2) (some (aU [],H.set id<|C T (aP id 0::r) false)) none|some (C _ (aP id' 0::_) false)=>cond (aA id' id) (some (aU [],H)) none|_=>none
 |_=>none
def QS :List AVal→Option Bz
 | []=>some []
 |J .u8 (.ofNat n)::r=>cond (bB n 256) (match QS r with
  |some l=>some (UInt8.ofNat n::l)|none=>none) none
 |_=>none
theorem LY :∀{cs:List AVal}{l:Bz},QS cs=some l→cs=u8c l
 | [],l,h=>by simp only[QS,iS]at h;subst h;rfl
 |J k n::r,l,h=>by
  unfold QS at h;split at h;·grind
  ·rename_i n' r' heq;injection heq with h1 h2;injection h1 with h3 h4;subst h2;subst h3;subst h4;cases hn:bB n' 256 with
   |false=>rw[hn]at h;cases h
   |true=>
    rw[hn,cond_true]at h;split at h;·rename_i l' hl';injection h with h;subst h;rw[LY hl'];grind[Nat.blt_eq,u8c,nO]
    ·cases h
  ·cases h
 |I _::_,_,h|S _::_,_,h|aG _::_,_,h|aU _::_,_,h|aN::_,_,h|.emp::_,_,h|aR _ _::_,_,h|aH _ _ _ _ _::_,_,h|.nilPtr::_,_,h|aP _ _::_,_,h|.optr _ _ _::_,_,h|aE _ _::_,_,h|.fn _ _ _::_,_,h|.nilFn::_,_,h|.iface _ _::_,_,h|.nilIf::_,_,h|.mref _::_,_,h|.nilMp::_,_,h=>Hu
def str68 (H:Hz):List AVal→Option (AVal×Hz)
 | [aP id 0]=>match H[id]? with
  |some (C _ (_::aH 1 jd 0 n _::_) false)=>match H[jd]? with
   |some (C TB cs true)=>match QS cs with
    |some l=>cond (aA (CM TB) 5&&(aA n (N l)&&bK 1 n)) (some (S l,H.set jd<|C (tgT TB) cs true)) none|none=>none
   |_=>none
  |_=>none
 |_=>none
def UU (H:Hz):List AVal→Option (AVal×Hz)
 | [aH 1 id 0 1 _]=>match H[id]? with
  |some (C _ [S _] false)=>some (aU [],H)|_=>none
 |_=>none
def SB (H:Hz):List AVal→Option (AVal×Hz)
 | [aH 1 id 0 1 _]=>match H[id]? with
  |some (C _ [S _] false)=>some (aH 1 id 0 1 none,H)|_=>none
 |_=>none
def tabW :CallF:=λf args H=>cond (aA f 87) (cc122 H args)<|cond (aA f 56) (str68 H args)<|cond (aA f 85) (UU H args)<|cond (aA f 86) (SB H args) none
theorem EQ {H:Hz}{id:Nat}{o:HObj}(h:H[id]?=some o):H.set id o=H:=by grind[List.set_getElem_self]
theorem tabW_ok (_hk:Kn W0):Eo gH W0 tabW:=λf args H v H' h=>by
 unfold tabW at h;cases h1:aA f 87 with
 |true=>
  have:=nBq h1;subst this;rw[h1,cond_true]at h;unfold cc122 at h;split at h
  ·rename_i id;split at h
   ·rename_i T r ho;cases hc:(aA T 109&&aA (N r) 2)with
    |false=>rw[hc]at h;cases h
    |true=>rw[hc,cond_true]at h;injection h with h;injection h with e1 e2;subst e1;subst e2;simp only[bAt]at hc;have e3:=nBq hc.1;have e4:=nBq hc.2;subst e3;exact ccPT ho (by rw[e4];kernel_rfl) Aq
   ·rename_i T id' r ho;cases hc:aA id' id with
    |false=>rw[hc]at h;cases h
    |true=>rw[hc,cond_true]at h;injection h with h;injection h with e1 e2;subst e1;subst e2;have e3:=nBq hc;subst e3;exact QO ho
   ·cases h
  ·cases h
 |false=>
  rw[h1,cond_false]at h;cases h2:aA f 56 with
  |true=>
   have:=nBq h2;subst this;rw[h2,cond_true]at h;unfold str68 at h;split at h
   ·rename_i id;split at h
    ·rename_i T c0 jd n cp r ho;split at h
     ·rename_i TB cs hj;split at h
      ·rename_i l hl;have hcs:=LY hl;subst hcs;cases hc:(aA (CM TB) 5&&(aA n (N l)&&bK 1 n))with
       |false=>rw[hc]at h;cases h
       |true=>rw[hc,cond_true]at h;injection h with h;injection h with e1 e2;subst e1;subst e2;simp only[bAt]at hc;have e3:=nBq hc.2.1;have e4:=Nat.le_of_ble_eq_true hc.2.2;exact strU ho hj e3 (λe=>by grind)<|nBq hc.1
      ·cases h
     ·cases h
    ·cases h
   ·cases h
  |false=>
   rw[h2,cond_false]at h;cases h3:aA f 85 with
   |true=>
    have:=nBq h3;subst this;rw[h3,cond_true]at h;unfold UU at h;split at h
    ·rename_i id cp;split at h;·rename_i T x ho;injection h with h;injection h with e1 e2;subst e1;subst e2;have q:=lSort (W0:=W0) (cp:=cp) (ss:=[x]) (n:=1) ho Z (show 1<1000000 by decide);grind[List.mergeSort,Cf,EQ]
     ·cases h
    ·cases h
   |false=>
    rw[h3,cond_false]at h;cases h4:aA f 86 with
    |false=>rw[h4]at h;cases h
    |true=>
     have:=nBq h4;subst this;rw[h4,cond_true]at h;unfold SB at h;split at h
     ·rename_i id cp;split at h;·rename_i T x ho;injection h with h;injection h with e1 e2;subst e1;subst e2;have e:gI #[x] 1=[x]:=Jl;have q:=FT (W0:=W0) (cp:=cp) (ss:=[x]) (n:=1) ho Z (show 1<1000000 by decide) (by grind);have e0:gI ([x]:List Bz).toArray (N ([x]:List Bz))=[x]:=Jl;simp_all[Cf,EQ]
      ·cases h
     ·cases h
def idleA (g:Nat):Option Nat:=cond (aA g 20) (some 3)<|cond (aA g 59) (some 2) none
def tabP (l:List Ent):CallF:=λf args H=>match tabW f args H with
 |some r=>some r|none=>AN l f args H
theorem tabP_ok (hk:Kn W0){l:List Ent}(hl:∀e∈l,Dc gH W0 e):Eo gH W0 (tabP l):=λf args H v H' h=>by
 unfold tabP at h;split at h;·rename_i r hr;injection h with h;subst h;exact tabW_ok hk _ _ _ _ _ hr
 ·exact Xv hl _ _ _ _ _ h
noncomputable def R9 (l:List Ent)(d:Nat):CallF:=J4 gH GL I5 idleA (tabP l) (λcall ops s=>Zg gH GL call ops s) 1000 d
theorem Jj (hk:Kn W0){l:List Ent}(hl:∀e∈l,Dc gH W0 e)(d:Nat):Eo gH W0 (R9 l d):=by
 refine Tc hk.g (λg m h=>?_) (tabP_ok hk hl) (λcall hc=>IY Aq hk.g hc) 1000 d;unfold idleA at h;cases h1:aA g 20 with
 |true=>rw[h1,cond_true]at h;injection h with h;subst h;have:=nBq h1;subst this;exact⟨UE,Ef Aq⟩
 |false=>
  rw[h1,cond_false]at h;cases h2:aA g 59 with
  |false=>rw[h2]at h;cases h
  |true=>rw[h2,cond_true]at h;injection h with h;subst h;have:=nBq h2;subst this;exact⟨SG,Ef Aq⟩
theorem PP (hk:Kn W0){l:List Ent}(hl:∀e∈l,Dc gH W0 e){d f:Nat}{args:List AVal}{v:AVal}(h:R9 l d f args []=some (v,[]))(h1:A9 0 args=true)(h2:blw 0 v=true):Dc gH W0 ⟨f,args,v⟩:=⟨h1,h2,Jj hk hl d _ _ _ _ _ h⟩
end Go.Abs
namespace Go.Abs
open Go.Proofs Go.RowKit
set_option maxRecDepth 10000000
variable {W0 : World}
def R2 :Bz:=[84,66,76,49,1,0,0,0,5,0,1,0,1,83,16,23,24,121,2,0,0,0,5,1,0,0,0,0,19,26,24,42,3,0,0,0,1,0,0,0,1,2,4,0,0,0,1,0,0,0,1,2,5,0,0,0,1,0,0,0,1,2]
def bkA :AVal:=aG [aR 2 [aG [S [83],aN]],aN,aN,aN]
def bkB :AVal:=aG [aR 2 [aG [S [83],aR 3 []]],aR 3 [],aN,aN]
def bkZ :AVal:=aG Vy
def awe0 :Ent:=⟨7,[bkA],aU [S R2,J U 0]⟩
theorem awr0 :R9 [] 60 7 [bkA] []=some (aU [S R2,J U 0],[]):=Aq
theorem awk0 (hk:Kn W0):Dc gH W0 awe0:=PP hk Dt awr0 Aq Aq
def awe1 :Ent:=⟨7,[bkB],aU [S R2,J U 0]⟩
theorem awr1 :R9 [] 60 7 [bkB] []=some (aU [S R2,J U 0],[]):=Aq
theorem awk1 (hk:Kn W0):Dc gH W0 awe1:=PP hk Dt awr1 Aq Aq
def awe2 :Ent:=⟨8,[S R2],aU [bkB,J U 0,J U 0]⟩
theorem awr2 :R9 [awe1] 60 8 [S R2] []=some (aU [bkB,J U 0,J U 0],[]):=Aq
theorem awk2 (hk:Kn W0):Dc gH W0 awe2:=PP hk (L6 (awk1 hk) Dt) awr2 Aq Aq
def awe3 :Ent:=⟨7,[bkZ],aU [S [],J U 96]⟩
theorem awr3 :R9 [] 60 7 [bkZ] []=some (aU [S [],J U 96],[]):=Aq
theorem awk3 (hk:Kn W0):Dc gH W0 awe3:=PP hk Dt awr3 Aq Aq
def awe4 :Ent:=⟨11,[bkA,bkB],I true⟩
theorem awr4 :R9 [] 60 11 [bkA,bkB] []=some (I true,[]):=Aq
theorem awk4 (hk:Kn W0):Dc gH W0 awe4:=PP hk Dt awr4 Aq Aq
end Go.Abs
namespace Go.Abs
open Go.Proofs Go.RowKit
set_option maxRecDepth 100000
variable {W0 : World} {G : List (Nat × AVal)}
def hD (s:Bz)(n:Nat):Hz:=[C 31 Vy false,C 3 [J U 0] false,C 33 [J U 0] false,C 75 [S s,J U n,aN] false]
def pv (n e:Nat):AVal:=.iface 71<|aG [J U n,J U e]
theorem wr_1 (hk:Kn W0):cP W0 57 [aP 3 0,J U 1] ((hD [84,66,76,88] 0)) (S [84]) (hD [84,66,76,88] 1):=Jj hk Dt 60 _ _ _ _ _ (show R9 [] 60 57 [aP 3 0,J U 1] ((hD [84,66,76,88] 0))=some (S [84],hD [84,66,76,88] 1)by kernel_rfl)
theorem wr_2 (hk:Kn W0):cP W0 57 [aP 3 0,J U 1] ((hD [84,66,76,88] 1)) (S [66]) (hD [84,66,76,88] 2):=Jj hk Dt 60 _ _ _ _ _ (show R9 [] 60 57 [aP 3 0,J U 1] ((hD [84,66,76,88] 1))=some (S [66],hD [84,66,76,88] 2)by kernel_rfl)
theorem wr_3 (hk:Kn W0):cP W0 57 [aP 3 0,J U 1] ((hD [84,66,76,88] 2)) (S [76]) (hD [84,66,76,88] 3):=Jj hk Dt 60 _ _ _ _ _ (show R9 [] 60 57 [aP 3 0,J U 1] ((hD [84,66,76,88] 2))=some (S [76],hD [84,66,76,88] 3)by kernel_rfl)
theorem wr_4 (hk:Kn W0):cP W0 57 [aP 3 0,J U 1] ((hD [84,66,76,88] 3)) (S [88]) (hD [84,66,76,88] 4):=Jj hk Dt 60 _ _ _ _ _ (show R9 [] 60 57 [aP 3 0,J U 1] ((hD [84,66,76,88] 3))=some (S [88],hD [84,66,76,88] 4)by kernel_rfl)
theorem p24 (hk:Kn W0)(hg:hGr W0 G):F6 gH W0 21 [aP 3 0,S [84,66,76,49]] (hD [84,66,76,88] 0) (pv 3 250) (hD [84,66,76,88] 4):=by refine goP 21 26 ?_;refine mL ?_;refine oM<|x3 Z Z Z ?_;refine⟨Z,?_⟩;refine mU ?_;refine ExP.loop 4 ?_;refine .inr ?_;refine sO<|mBk hg gN (c:=true) Z Z Z<|mn<|sq<|cT Z<|kM<|sq<|bM<|sO<|x2 Z Z<|sq ?_;refine nD hg 1 Z ?_;refine Hq Z Z O<|NC Z Z Z (wr_1 hk)<|Hq Z Z O<|Hq Z Z O<|Hq Z Z O<|wKv (v:=J U 1) Z Z (by simp_all[Ah]) Z<|Hq (v:=S [84]) Z Z (by grind[Bm,Ah])<|wBk (c:=false) Z Z Z<|OE<|?_;refine cF Z<|kM<|oM<|mKs (v:=J U 1) Z Z<|x1 Z ?_;refine⟨Z,?_⟩;refine .inr ?_;refine sO<|mBk hg gN (c:=true) Z Z Z<|mn<|sq<|cT Z<|kM<|sq<|bM<|sO<|x2 Z Z<|sq ?_;refine nD hg 1 Z ?_;refine Hq Z Z O<|NC Z Z Z (wr_2 hk)<|Hq Z Z O<|Hq Z Z O<|Hq Z Z O<|wKv (v:=J U 2) Z Z (by simp_all[Ah]) Z<|Hq (v:=S [66]) Z Z (by grind[Bm,Ah])<|wBk (c:=false) Z Z Z<|OE<|?_;refine cF Z<|kM<|oM<|mKs (v:=J U 2) Z Z<|x1 Z ?_;refine⟨Z,?_⟩;refine .inr ?_;refine sO<|mBk hg gN (c:=true) Z Z Z<|mn<|sq<|cT Z<|kM<|sq<|bM<|sO<|x2 Z Z<|sq ?_;refine nD hg 1 Z ?_;refine Hq Z Z O<|NC Z Z Z (wr_3 hk)<|Hq Z Z O<|Hq Z Z O<|Hq Z Z O<|wKv (v:=J U 3) Z Z (by simp_all[Ah]) Z<|Hq (v:=S [76]) Z Z (by grind[Bm,Ah])<|wBk (c:=false) Z Z Z<|OE<|?_;refine cF Z<|kM<|oM<|mKs (v:=J U 3) Z Z<|x1 Z ?_;refine⟨Z,?_⟩;refine .inl ?_;refine mL ?_;refine oM<|mBk hg gN (c:=true) Z Z Z<|mn ?_;refine⟨Z,?_⟩;refine mL ?_;refine cT Z<|kM ?_;refine⟨Z,?_⟩;refine mM ?_;refine mU ?_;refine mL ?_;refine oM<|x2 Z Z ?_;refine⟨Z,?_⟩;refine mL ?_;refine nD hg 1 Z ?_;refine Hq Z Z O<|NC Z Z Z (wr_4 hk)<|Hq Z Z O<|Hq Z Z O<|Hq Z Z O<|wKv (v:=J U 4) Z Z (by simp_all[Ah]) Z<|Hq (v:=S [49]) Z Z (by grind[Bm,Ah])<|wBk (c:=true) Z Z Z<|OE<|?_;refine⟨Z,?_⟩;refine ExP.condT hg Z ?_;refine mR hg ?_;refine Dy hg gN Z Z O<|Dy hg gN Z Z O<|Dy hg gN Z Z O<|Dy hg gN Z Z O<|Dy hg gN Z Z O<|Dy hg gN Z Z O<|Dy hg gN Z Z O<|pPan hg Z Z
theorem p69 (hg:hGr W0 G):F6 gH W0 57 [aP 3 0,J U 4] (hD [84,66,76,49,1] 5) (pv 5 252) (hD [84,66,76,49,1] 5):=by refine goP 57 47 ?_;refine mL ?_;refine oM<|x1 Z ?_;refine⟨Z,?_⟩;refine mM ?_;refine mL ?_;refine ExM.draw hg ?_;refine qV Z<|qV Z<|qV Z<|qV Z<|qV Z<|qV Z<|qV Z<|qV Z<|qV Z<|qV Z<|qV Z<|qBk (c:=true) Z Z Z ?_;refine Ec<|?_;refine⟨Z,?_⟩;refine ExP.condT hg Z ?_;refine mR hg ?_;refine Dy hg gN Z Z O<|Dy hg gN Z Z O<|Dy hg gN Z Z O<|Dy hg gN Z Z O<|Dy hg gN Z Z O<|Dy hg gN Z Z O<|Dy hg gN Z Z O<|pPan hg Z Z
theorem p70 (hg:hGr W0 G):F6 gH W0 58 [aP 3 0,J U 4] (hD [84,66,76,49,1] 5) (pv 5 252) (hD [84,66,76,49,1] 5):=by refine goP 58 23 ?_;refine mL ?_;refine oM<|x1 Z ?_;refine⟨Z,?_⟩;refine mM ?_;refine mM ?_;refine mR hg ?_;refine Dy hg gN Z Z O<|Dy hg gN Z Z O<|O6 hg Z (p69 hg) Z
theorem wr_5 (hk:Kn W0):cP W0 21 [aP 3 0,S [1]] ((hD [84,66,76,49,1] 4)) (aU []) (hD [84,66,76,49,1] 5):=Jj hk Dt 60 _ _ _ _ _ (show R9 [] 60 21 [aP 3 0,S [1]] ((hD [84,66,76,49,1] 4))=some (aU [],hD [84,66,76,49,1] 5)by kernel_rfl)
theorem p25 (hk:Kn W0)(hg:hGr W0 G):F6 gH W0 22 [aP 3 0,J U 1] (hD [84,66,76,49,1] 4) (pv 5 252) (hD [84,66,76,49,1] 5):=by refine goP 22 29 ?_;refine mL ?_;refine oM<|x1 Z ?_;refine⟨Z,?_⟩;refine mL ?_;refine oM<|m4 Z Z Z Z<|mC Z (wr_5 hk)<|mn ?_;refine⟨Z,?_⟩;refine mM ?_;refine mR hg ?_;refine Dy hg gN Z Z O<|Dy hg gN Z Z O<|O6 hg Z (p70 hg) Z
def wr23 :ACode:=(sQ [⟨(some 7),none,(.move 3)⟩,⟨(some 8),none,(.bin .neq (some<|.interface #[]) 7<|.val<|.nilIf)⟩]<|.cond 8 (sQ [⟨(some 10),none,(.move 3)⟩,⟨(some 11),none,(.tas 71 10)⟩,⟨(some 9),none,(.move 11)⟩,⟨(some 12),none,(.extract 9 0)⟩,⟨(some 13),none,(.extract 9 1)⟩,⟨(some 4),none,(.alloc 71 [(J U 0),(J U 0)])⟩,yN<|(.store 2 4 12),⟨(some 5),none,(.move 13)⟩]<|.seq (sQ [⟨(some 14),none,(.move 5)⟩,⟨(some 15),none,(.un .not 14)⟩]<|.cond 15 (.ops [⟨(some 16),none,(.move 3)⟩,yN<|(.pan 16)]) .skip)<|.drawC [⟨(some 17),none,(.build Vy [])⟩,⟨(some 18),none,(.fieldAddr 0 4)⟩,⟨(some 19),none,(.load 1 false 18)⟩,⟨(some 20),none,(.fieldAddr 1 4)⟩,⟨(some 21),none,(.load 1 false 20)⟩,yN<|(.store 4 0 17),yN<|(.store 1 1 19),yN<|(.store 1 2 21)] ⟨8,[0,1,1,1,1,2,2,2],[0,0,2,0,8,1,39,127],[0,32,96,224]⟩) .skip)
theorem LO (hg:hGr W0 G){s:Bz}{n a e:Nat}:Yz gH W0 20 [aP 0 0,aP 1 0,aP 2 0] (pv a e) (hD s n) [C 31 Vy false,C 3 [J U a] false,C 33 [J U e] false,C 75 [S s,J U n,aN] false,C 71 [J U a,J U e] false]:=by refine Yz.of2 (ar:=wr23) (t:=6) (t2:=3) (n:=22) Tryz.func20 Z Z Z Z Z (λ_ _=>Z) (λ_ _=>Z) Aq Z Az Z Z Z ?_;refine sO<|mV Z<|mBk hg gN (c:=true) Z Z Z<|mn<|cT Z<|sO<|m2 Z Z<|m4 Z Z Z Z<|Ai hg gN Z<|x1 Z<|sq<|sO<|mV Z<|mBk hg gN (c:=false) Z Z Z<|mn<|cF Z<|kM ?_;refine kH hg ?_;refine Gk Z Z O Aq<|Gk Z Z O Aq<|Gk Z Z O Aq<|Gk Z Z O Aq<|Gk Z Z O Aq<|Ql Z Z (pdC (cY (by show jR _ 32 4=true;rfl)<|evY Z O)<|pdC (cY (by show jR _ 32 3=true;rfl)<|evY Z O)<|pdC (cY (by show jR _ 32 2=true;rfl)<|evY Z O)<|pdC (cY UR<|evY Z O) pdN)<|?_;refine Ql Z Z (pdC (cY (by show jR _ 96 4=true;rfl)<|evY Z O)<|pdC (cY (by show jR _ 96 3=true;rfl)<|evY Z O)<|pdC (cN (by show jR _ 96 2=false;rfl))<|pdC (cN (by show jR _ 96 1=false;rfl)) pdN)<|Ql Z Z (pdC (cN (by show jR _ 224 4=false;rfl))<|pdC (cN (by show jR _ 224 3=false;rfl))<|pdC (cN (by show jR _ 224 2=false;rfl))<|pdC (cN (by show jR _ 224 1=false;rfl)) pdN)<|JF Z<|?_;exact⟨O,Z⟩
def wa0 :ACode:=(.ops [⟨(some 2),none,(.alloc 31 Vy)⟩,⟨(some 3),none,(.alloc 3 [(J U 0)])⟩,⟨(some 4),none,(.alloc 33 [(J U 0)])⟩])
def wa1 :ACode:=(sQ [⟨(some 12),none,(.move 0)⟩,⟨(some 13),none,(.len true 12)⟩,⟨(some 14),none,(.bin .gtr none 13<|vI 200000)⟩]<|.cond 14 (sQ [⟨(some 15),none,(.build Vy [])⟩,yN<|(.store 4 2 15),yN<|(.store 1 3<|vI 0),yN<|(.store 1 4<|vI 250)] .ret) .skip)
def war :ACode:=(sQ [⟨(some 17),none,(.move 0)⟩,⟨(some 18),none,(.build [(S []),(J U 0),aN] [(0,1,17)])⟩,⟨(some 19),none,(.box 75 18)⟩,⟨(some 5),none,(.move 19)⟩]<|sQ [⟨(some 20),none,(.move 5)⟩,⟨(some 21),none,(kF 21 [20,(.val<|S [84,66,76,49])])⟩]<|sQ [⟨(some 6),none,(.move<|.val<|aN)⟩]<|.seq (sQ [⟨(some 22),none,(.move<|vI 0)⟩]<|.block 0<|.loop<|sQ [⟨(some 23),none,(.bin .lss none 22<|vI 5)⟩]<|.seq (.cond 23 .skip<|.exit 0)<|.seq (.block 1<|sQ [⟨(some 24),none,(.move 22)⟩,⟨(some 7),none,(.move 24)⟩]<|.ops [⟨(some 25),none,(.move 6)⟩,⟨(some 26),none,(.move 5)⟩,⟨(some 27),none,(.move 7)⟩,⟨(some 28),none,(.bin .add none 27<|vI 1)⟩,⟨(some 29),none,(kF 22 [26,28])⟩,⟨(some 30),none,(.bslice 9 1 1 [(S [])] [(0,1,29)])⟩,⟨(some 31),none,(.append 9 1 16 25 30)⟩,⟨(some 6),none,(.move 31)⟩])<|.ops [⟨(some 32),none,(.bin .add none 22<|vI 1)⟩,⟨(some 22),none,(.move 32)⟩])<|.seq (sQ [⟨(some 33),none,(.move 5)⟩,⟨(some 34),none,(.nilCheck 33)⟩,⟨(some 35),none,(.fieldAddr 1 34)⟩,⟨(some 36),none,(.load 1 false 35)⟩,⟨(some 37),none,(.move 0)⟩,⟨(some 38),none,(.len true 37)⟩,⟨(some 39),none,(.bin .lss none 36 38)⟩]<|.cond 39 (.seq (.drawC [⟨(some 40),none,(.build Vy [])⟩,⟨(some 41),none,(.move 5)⟩,⟨(some 42),none,(.nilCheck 41)⟩,⟨(some 43),none,(.fieldAddr 1 42)⟩,⟨(some 44),none,(.load 1 false 43)⟩,yN<|(.store 4 2 40),yN<|(.store 1 3 44),yN<|(.store 1 4<|vI 250)] ⟨8,[0,0,1,1,1,2,2,2],[0,0,2,6,14,1,63,127],[0,32,96,224]⟩) .ret) .skip)<|sQ [⟨(some 46),none,(.move 6)⟩,⟨(some 47),none,(kF 23 [46])⟩,⟨(some 45),none,(.move 47)⟩,⟨(some 48),none,(.extract 45 0)⟩,⟨(some 49),none,(.extract 45 1)⟩,⟨(some 8),none,(.alloc 31 Vy)⟩,yN<|(.store 4 8 48),⟨(some 9),none,(.move 49)⟩]<|.seq (sQ [⟨(some 51),none,(.load 4 true 8)⟩,⟨(some 52),none,(kF 7 [51])⟩,⟨(some 50),none,(.move 52)⟩,⟨(some 53),none,(.extract 50 0)⟩,⟨(some 54),none,(.extract 50 1)⟩,⟨(some 10),none,(.move 53)⟩,⟨(some 11),none,(.move 54)⟩]<|sQ [⟨(some 55),none,(.move 9)⟩,⟨(some 56),none,(.un .not 55)⟩,⟨(some 57),none,(.move 56)⟩,⟨(some 58),(some (57,false)),(.move 11)⟩,⟨(some 59),(some (57,false)),(.bin .neq none 58<|vI 0)⟩,⟨(some 60),none,(.pick 57 (.val<|I true) 59)⟩,⟨(some 61),none,(.move 60)⟩,⟨(some 62),(some (61,false)),(.move 10)⟩,⟨(some 63),(some (61,false)),(.move 0)⟩,⟨(some 64),(some (61,false)),(.bin .neq none 62 63)⟩,⟨(some 65),none,(.pick 61 (.val<|I true) 64)⟩]<|.cond 65 (sQ [⟨(some 66),none,(.build Vy [])⟩,yN<|(.store 4 2 66),yN<|(.store 1 3<|vI 0),yN<|(.store 1 4<|vI 250)] .ret) .skip)<|sQ [⟨(some 67),none,(.load 4 true 8)⟩,yN<|(.store 4 2 67),yN<|(.store 1 3<|vI 0),yN<|(.store 1 4<|vI 0)] .ret)
theorem decX (hk:Kn W0)(hg:hGr W0 G):cP W0 8 [S [84,66,76,88]] [] (aU [bkZ,J U 3,J U 250]) []:=by refine nK hg (v:=pv 3 250) (a0:=wa0) (a1:=wa1) (ar:=war) (ao:=⟨some 16,none,.mkfn 20 [] [.tmp 2,.tmp 3,.tmp 4]⟩) (t:=16) (g:=20) (n:=68) nF Z (by simp[nJ]) (Ef Aq) Aq Aq Aq Aq Z Z Z ⟨_,Z,Z,Z⟩ Az Z Z ?_;refine oM<|x3 Z Z Z ?_;refine⟨Z,?_⟩;refine sO<|m2 Z Z<|mBk hg gN (c:=false) Z Z Z<|mn<|cF Z<|kM ?_;refine⟨Z,?_⟩;refine⟨O,Z,⟨_,Z,?_⟩⟩;refine mL ?_;refine oM<|x4 Z Z Z Z ?_;refine⟨Z,?_⟩;refine mM ?_;refine mR hg ?_;refine Dy hg gN Z Z O<|O6 hg Z (p24 hk hg) ⟨_,LO hg,_,Z,Z⟩
theorem wr_6 (hk:Kn W0):cP W0 21 [aP 3 0,S [84,66,76,49]] ((hD [84,66,76,49,1] 0)) (aU []) (hD [84,66,76,49,1] 4):=Jj hk Dt 60 _ _ _ _ _ (show R9 [] 60 21 [aP 3 0,S [84,66,76,49]] ((hD [84,66,76,49,1] 0))=some (aU [],hD [84,66,76,49,1] 4)by kernel_rfl)
theorem decY (hk:Kn W0)(hg:hGr W0 G):cP W0 8 [S [84,66,76,49,1]] [] (aU [bkZ,J U 5,J U 252]) []:=by refine nK hg (v:=pv 5 252) (a0:=wa0) (a1:=wa1) (ar:=war) (ao:=⟨some 16,none,.mkfn 20 [] [.tmp 2,.tmp 3,.tmp 4]⟩) (t:=16) (g:=20) (n:=68) nF Z (by simp[nJ]) (Ef Aq) Aq Aq Aq Aq Z Z Z ⟨_,Z,Z,Z⟩ Az Z Z ?_;refine oM<|x3 Z Z Z ?_;refine⟨Z,?_⟩;refine sO<|m2 Z Z<|mBk hg gN (c:=false) Z Z Z<|mn<|cF Z<|kM ?_;refine⟨Z,?_⟩;refine⟨O,Z,⟨_,Z,?_⟩⟩;refine mL ?_;refine oM<|x4 Z Z Z Z ?_;refine⟨Z,?_⟩;refine mL ?_;refine oM<|mV Z<|mC Z (wr_6 hk)<|mn ?_;refine⟨Z,?_⟩;refine mL ?_;refine oM<|x1 Z ?_;refine⟨Z,?_⟩;refine mM ?_;refine mL ?_;refine oM<|x1 Z ?_;refine⟨Z,?_⟩;refine mU ?_;refine ExP.loop 1 ?_;refine .inl ?_;refine mL ?_;refine oM<|mBk hg gN (c:=true) Z Z Z<|mn ?_;refine⟨Z,?_⟩;refine mL ?_;refine cT Z<|kM ?_;refine⟨Z,?_⟩;refine mM ?_;refine mU ?_;refine mL ?_;refine oM<|x2 Z Z ?_;refine⟨Z,?_⟩;refine mR hg ?_;refine Dy hg gN Z Z O<|Dy hg gN Z Z O<|Dy hg gN Z Z O<|Dy hg gN Z Z (by grind[Ah])<|O6 hg Z (p25 hk hg) ⟨_,LO hg,_,Z,Z⟩
end Go.Abs
namespace Go.Abs
open Go.Proofs Go.RowKit
set_option maxRecDepth 100000
def Hw (l:Bz):Nat:=l.foldl (λn b=>n*256+b.toNat) 0
theorem MW (l:Bz)(b:UInt8):Hw (l++[b])=Hw l*256+b.toNat:=by simp[Hw]
theorem UB {l:Bz}{i:Nat}(h:i<N l):l.take (i+1)=l.take i++[l.getD i 0]:=by simp_all
theorem NW {l:Bz}{i:Nat}(h:i<N l):Hw (l.take<|i+1)=Hw (l.take i)*256+(l.getD i 0).toNat:=by rw[UB h,MW]
theorem Rx :∀(l:Bz) (n:Nat),l.foldl (λn b=>n*256+b.toNat) n=n*256^N l+Hw l
 | [],n=>by simp[Hw]
 |b::l,n=>by
  have h1:Hw (b::l)=(0*256+b.toNat)*256^N l+Hw l:=by rw[Hw,nA,Rx l]
  rw[nA,Rx l,h1,lCo,Nat.pow_succ,cJ,bS,bE,Nat.mul_assoc,fO 256];omega
theorem u8_lt (b:UInt8):b.toNat<256:=b.toNat_lt
theorem KU :∀(l:Bz),Hw l<256^N l
 | []=>by simp[Hw]|b::l=>by have h:=KU l;have hb:=u8_lt b;rw[Hw,nA,Rx l,lCo,Nat.pow_succ,cJ,bS];have:b.toNat*256^N l≤255*256^N l:=Nat.mul_le_mul_right _ Y;omega
theorem Hm :∀(k n:Nat),Hw (Ad k n)=n%256^k
 |0,n=>by simp[Hw,Ad,Nat.mod_one]|k+1,n=>by rw[Ad,Hw,nA,Rx,Ak,Hm k,Nat.mod_pow_succ,cJ,bS,nO,fO<|256^k,show(2:Nat)^8=256 from rfl];omega
theorem or_add {a c:Nat}(ha:a<1099511627776)(hc:c<256):U.wrap (((cI 64 ((a*256:Nat):Int))|||cI 64 ((c:Nat):Int)).toNat:Int)=((a*256+c:Nat):Int):=by
 have h1:(cI 64 ((a*256:Nat):Int)|||cI 64 ((c:Nat):Int)).toNat=a*256+c:=by rw[BitVec.toNat_or,nL,nL,nP,nP,mP Y,mP Y,fO];exact(Nat.two_pow_add_eq_or_of_lt (i:=8) hc a).symm
 grind[w64]
theorem KJ (bd:Nat→Bz){n:Nat}:∀{m:Nat},n<m→∃r,Bj bd m=Bj bd n++(Ad 1 (n+1)++(Ad 4 (N<|bd n)++(bd n++Ad 4 (Lo<|bd n))))++r
 |0,h=>Y
 |m+1,h=>by
  by_cases e:n=m;·subst e;exact⟨[],by rw[Bj,lP];rfl⟩
  ·obtain⟨r,hr⟩:=KJ bd (n:=n) (m:=m) Y;grind[Bj]
theorem turn_at {M:Bz}{j:Nat}(h:j<N M):M=M.take j++M.getD j 0::M.drop (j+1):=by simp_all
end Go.Abs
namespace Go.Abs
open Go.Proofs Go.RowKit
set_option maxRecDepth 100000
variable {W0 : World} {G : List (Nat × AVal)}
def Seg (s:Bz)(a:Nat)(q:Bz):Prop:=∃A R,s=A++(q++R)∧N A=a
theorem Seg.len {s q:Bz}{a:Nat}(h:Seg s a q):a+N q≤N s:=by obtain⟨A,R,rfl,rfl⟩:=h;simp
theorem Seg.cut {s q:Bz}{a:Nat}(h:Seg s a q):(s.take<|a+N q).drop a=q:=by
 obtain⟨A,R,rfl,rfl⟩:=h;rw[mN,bU Y,List.drop_left',Nat.add_sub_cancel_left,List.take_left'];·rfl
 ·rfl
theorem Seg.l {s q r:Bz}{a:Nat}(h:Seg s a<|q++r):Seg s a q:=by obtain⟨A,R,rfl,rfl⟩:=h;exact⟨A,r++R,by rw[cE],rfl⟩
theorem Seg.r {s q r:Bz}{a:Nat}(h:Seg s a<|q++r):Seg s (a+N q) r:=by obtain⟨A,R,rfl,rfl⟩:=h;exact⟨A++q,R,by rw[cE,cE],by rw[lAp]⟩
theorem Seg.one {s q:Bz}{a i:Nat}(h:Seg s a q)(hi:i<N q):Seg s (a+i) [q.getD i 0]:=by rw[turn_at hi]at h;have h1:=h.r;rw[lW,Nat.min_eq_left Y]at h1;exact Seg.l (r:=q.drop<|i+1) h1
theorem needC {q:Bz}{i:Nat}(hlt:i<N q):(q.take<|i+1).drop i=[q.getD i 0]:=by rw[lK hlt,List.drop_left' UA,eZ,gGe hlt,mO]
theorem bKv {P:Program}{W0:World}{G:List (Nat×AVal)}{l:List (Nat×AVal)}{H H2:Hz}{n j0 d0 j d:Nat}{v u u0:AVal}{r:List AOper}{op:AOp}{side:List (Int×Int)}(hj:j≠j0)(h:aop G ⟨.al l,H,n⟩ op=some (.val u0 H side))(hs:Ah side)(hv:u0=u)(k:I6 P W0 G j0 d0 v H2 (j+1) r ⟨.al ((d,u)::l),H,n⟩)(hd:(Nat.blt d n&&Nat.blt d 4094)=true:=by rfl):I6 P W0 G j0 d0 v H2 j (⟨some d,none,op⟩::r) ⟨.al l,H,n⟩:=by subst hv;exact ML hj h hs k hd
def rdX (s:Bz)(a:Nat)(L:AVal)(X:Hz):Hz:=C 75 [S s,J U a,L] false::X
abbrev rd (s:Bz)(a:Nat)(L:AVal):Hz:=rdX s a L []
theorem frHa {H:Hz}{n:Nat}:∀{A B Cx D:Hz},FrH H n A B→FrH H n Cx D→FrH H n (A++Cx) (B++D)
 | [],[],_,_,_,k=>k|_::_,_::_,_,_,h,k=>⟨h.1,frHa h.2 k⟩| [],_::_,_,_,h,_=>h.elim|_::_,[],_,_,h,_=>h.elim
section
variable {L : AVal} {X : Hz}
theorem rdB (hL:blw 0 L=true){s:Bz}{x:Int}:A9 0 [S s,J U x,L]=true:=by show cond (blw 0 L) true false=true;rw[hL];rfl
theorem rdH {n:Nat}(hL:blw 0 L=true){s:Bz}{a:Nat}:B5 n (rd s a L)=true:=by show cond (A9 n [S s,J U a,L]) true false=true;rw[Dv (iH n) _<|rdB hL];rfl
theorem rdAt2 {L':AVal}{wr:Value→Ending}{f:FuncId}{rest:List AVal}{v:AVal}{s:Bz}{a a' i:Nat}{H:Hz}(hL:blw 0 L=true)(hL':blw 0 L'=true)(hi:H[i]?=some (C 75 [S s,J U a,L] false))(hr:A9 0 rest=true)(hv:blw 0 v=true)(h:K3 gH W0 wr f (aP 0 0::rest) (rd s a L) v<|rd s a' L'):
 K3 gH W0 wr f (aP i 0::rest) H v (H.set i<|C 75 [S s,J U a',L'] false):=by
 have e:∀x:Int,Ge (λ_=>i) (C 75 [S s,J U x,L] false)=C 75 [S s,J U x,L] false:=λx=>by show C 75 (Fb _ [S s,J U x,L]) false=_;rw[Bt _<|rdB hL]
 have hsel:Sel [i] 1 (rd s a L) H (λ_=>i):=by
  refine⟨Az,Z,Z,λj hj=>?_,λk hk=>?_,λj o ho=>?_⟩
  ·obtain rfl:j=0:=by omega
   rfl
  ·rw[List.mem_singleton]at hk;subst hk;exact(aC.1 hi).1
  ·have hj:j<1:=(aC.1 ho).1;obtain rfl:j=0:=Y;have ho:some (C 75 [S s,J U a,L] false)=some o:=ho;injection ho with ho;subst ho;rw[e];exact hi
 have h1:=K3.ren (args:=aP 0 0::rest) (H:=H) (H0:=rd s a L) (H0':=rd s a' L') [i] (λ_=>i) hsel (rdH hL) (show A9 1 rest=true from Dv (iH 1) _ hr) Z h;have h2:Fb (λ_=>i) (aP 0 0::rest)=aP i 0::rest:=by show _::Fb _ rest=_;rw[Bt _ hr];rfl
 rw[h2,Ir _ hv]at h1;have h3:Ej [i] ((rd s a' L').map<|Ge λ_=>i) H=H.set i (C 75 [S s,J U a',L'] false):=by show H.set i (C 75 (Fb _ [S s,J U a',L']) false)=_;rw[Bt _<|rdB hL']
 rw[h3]at h1;exact h1
theorem NG {wr:Value→Ending}{f:FuncId}{rest:List AVal}{v:AVal}{s:Bz}{a a' i:Nat}{H:Hz}(hL:blw 0 L=true)(hi:H[i]?=some (C 75 [S s,J U a,L] false))(hr:A9 0 rest=true)(hv:blw 0 v=true)(h:K3 gH W0 wr f (aP 0 0::rest) (rd s a L) v<|rd s a' L):
 K3 gH W0 wr f (aP i 0::rest) H v (H.set i<|C 75 [S s,J U a',L] false):=rdAt2 hL hL hi hr hv h
theorem takeW (hg:hGr W0 G){s:Bz}{a k:Nat}(h:a+k≤N s)(hl:N s≤1000000):cP W0 57 [aP 0 0,J U k] (rdX s a L X) (S<|(s.take<|a+k).drop a) (rdX s (a+k) L X):=by refine goW 57 47 (N X+1) ?_;refine Wm ?_;refine kD ?_;refine vQ Z<|vQ Z<|vQ Z<|vQ Z<|vQ Z<|vQ Z<|vQ Z<|vQ Z<|vQ Z<|vQ Z<|qKv (v:=J U (N s-a:Nat)) Z Z O (Bv Y Y Y)<|qBk (c:=false) Z Z (dF Y)<|Ec ?_;refine Wm ?_;refine ExM.sub (s1:=⟨.al [(0,aP 0 0),(1,J U k)],rdX s (a+k) L X,47⟩) (Ap Z Z<|sbC Z<|sbC Z sbN) ?_;refine Wm ?_;refine kD ?_;refine vQ Z<|vQ Z<|vQ Z<|vQ Z<|vQ Z<|vQ Z<|vQ Z<|vQ Z<|vQ Z<|qKv (v:=J U a) Z Z O (Bv Y Y Y)<|vQ Z<|vQ Z<|vQ Z<|vQ Z<|Ao (v:=S<|(s.take<|a+k).drop a) Z Z bY48<|vQ Z<|Ec ?_;refine Wm ?_;exact pS
theorem AJ (hg:hGr W0 G){s q:Bz}{a:Nat}(h:Seg s a q)(hl:N s≤1000000):cP W0 57 [aP 0 0,J U<|N q] (rdX s a L X) (S q) (rdX s (a+N q) L X):=by have h1:=takeW (W0:=W0) (L:=L) (X:=X) hg h.len hl;rw[h.cut]at h1;exact h1
theorem hF0 (hL:blw 0 L=true):∀(H:Hz) (n:Nat),N ([]:Hz)+1≤n→FzV H n L L∧FrH H n [] []:=λ_ _ _=>⟨Au hL,frN⟩
theorem numX1 (hg:hGr W0 G)(hF:∀(H:Hz) (n:Nat),N X+1≤n→FzV H n L L∧FrH H n X X){s l:Bz}{a w:Nat}(h:Seg s a l)(hl:N s≤1000000)(h4:N l=w)(hw:w≤4):cP W0 58 [aP 0 0,J U w] (rdX s a L X) (J U<|Hw l) (rdX s (a+w) L X):=by
 have ht:=AJ (W0:=W0) (L:=L) (X:=X) hg h hl;subst h4;have hbl:A9 0 (u8c l)=true:=Cj l;have hfr:∀(H:Hz) (n:Nat),N X+1≤n→FrH H n (rdX s (a+N l) L X) (rdX s (a+N l) L X):=λH n hn=>frC (frO<|flC fvS<|flC fvI<|flC (hF H n hn).1 flN) (hF H n hn).2;have hln:N (rdX s (a+N l) L X)=N X+1:=rfl;have hget:(rdX s (a+N l) L X++[C 5 (u8c l) false])[N X+1]?=some (C 5 (u8c l) false):=by rw[mW (by rw[hln];omega),hln,Nat.sub_self];rfl
 have hst:∀(i:Nat) (e:Env) (n:Nat),e.get 4=some (J U<|Hw<|l.take i)→e.get 10=some (aH 1 (N X+1) 0 (N l) none)→e.get 11=some (J U<|N l)→e.get 12=some (J U i)→Fh (N X+1) ⟨.al [(4,J U<|Hw<|l.take i),(10,aH 1 (N X+1) 0 (N l) none),(11,J U<|N l),(12,J U i)],rdX s (a+N l) L X++[C 5 (u8c l) false],n⟩ ⟨e,rdX s (a+N l) L X++[C 5 (u8c l) false],n⟩:=λi e n h1 h2 h3 h4=>B8 (N X+2) (by show FrH _ _ (List.take _ _) _;rw[bU (by rw[lAp,hln];exact bC _)];exact frHa (hfr _ _ Y)<|frC (frS hbl) frN) (fzC h1 fvI<|fzC h2 (D2 Y)<|fzC h3 fvI<|fzC h4 fvI fzN) (hm:=by omega);refine goW 58 23 (N X+1) ?_;refine Wm ?_;refine mS (v:=aH 1 (N X+1) 0 (N l) none) Z ?_;refine Wm ?_;refine ExM.lpH (σ:=Nat) (τ:=Unit) (λi=>⟨.al [(4,J U<|Hw<|l.take i),(10,aH 1 (N X+1) 0 (N l) none),(11,J U<|N l),(12,J U i)],rdX s (a+N l) L X++[C 5 (u8c l) false],23⟩) (λi=>i≤N l) (λi=>N l-i) 0 (λ_=>⟨.al [(4,J U<|Hw l)],rdX s (a+N l) L X,23⟩) (λ_=>True) ?_ (iH _) ?_ ?_;·exact hst 0 _ _ Z Z Z Z
 ·intro i hi;have hi:i≤N l:=hi;by_cases hlt:i<N l
  ·have e8:=NW hlt;have hv:Hw (l.take i)<1099511627776:=by have h1:=KU<|l.take i;have h2:N (l.take i)≤4:=UA;have h3:256^N (l.take i)≤256^4:=Nat.pow_le_pow_right V h2;omega
   have hc:=u8_lt<|l.getD i 0;have hrd:C5 1 false (u8c l) i=some (J .u8<|(l.getD i 0).toNat):=by
    have hlt:i<N (u8c l):=by rw[u8c,jY];omega
    rw[C5,fQ hlt];simp only[u8c,List.getElem_map,eZ,gGe (show i<N l by omega),mO];rfl
   refine Wm ?_;refine mS (v:=aP (N X+1) i) (OR Z Z hget) ?_ (hs:=by simp only[Ah,and_true];omega);refine mV (v:=J .u8<|(l.getD i 0).toNat) (O0 Z hget hrd) ?_;refine Wm ?_;refine mI ((Hw (l.take i)*256:Nat):Int) Z ?_ (h1:=by show _≤((Hw (l.take i):Nat):Int)*256;omega) (h2:=by show((Hw (l.take i):Nat):Int)*256≤_;omega) (h3:=by show((Hw (l.take i):Nat):Int)*256=_;omega);refine mV Z ?_;refine mI (((l.getD i 0).toNat:Nat):Int) Z ?_;refine mKs (v:=J U<|Hw<|l.take<|i+1) Z (congrArg (J U)<|(or_add hv hc).trans (by rw[e8])) ?_;refine Wm ?_;exact hoN (i+1) hlt Y<|hst (i+1) _ _ Z Z Z Z
  ·have he:i=N l:=by omega
   subst he;refine Wm ?_;exact hoE () O<|B8 (N X+1) (by rw[List.take_left' hln];exact hfr _ _ Y) (fzC Z (J8 (by rw[bU<|bC _])) fzN) (hm:=by omega)
 intro _ _;refine Wm ?_;exact We
theorem numS (hg:hGr W0 G)(hL:blw 0 L=true){s l:Bz}{a w:Nat}(h:Seg s a l)(hl:N s≤1000000)(h4:N l=w)(hw:w≤4):cP W0 58 [aP 0 0,J U w] (rd s a L) (J U<|Hw l) (rd s (a+w) L):=numX1 hg (hF0 hL) h hl h4 hw
theorem num4 (hg:hGr W0 G)(hL:blw 0 L=true){s l:Bz}{a:Nat}(h:Seg s a l)(hl:N s≤1000000)(h4:N l=4):cP W0 58 [aP 0 0,J U 4] (rd s a L) (J U<|Hw l) (rd s (a+4) L):=numS hg hL h hl h4 V
theorem RH (hg:hGr W0 G)(hL:blw 0 L=true){s q:Bz}{a:Nat}(h:Seg s a q)(hl:N s≤1000000)(hq:N q≤1000):cP W0 21 [aP 0 0,S q] (rd s a L) (aU []) (rd s (a+N q) L):=by
 refine goW 21 26 1 ?_;refine Wm ?_;refine ExM.lpA (σ:=Nat) (λi=>⟨.al [(0,aP 0 0),(1,S q),(6,J U<|N q),(7,J U i)],rd s (a+i) L,26⟩) (λi=>i≤N q) (λi=>N q-i) 0 (B8 1 (frC (frS<|rdB hL) frN)<|fzC Z (Af V)<|fS<|fI<|fI fzN) (iH _) ?_;intro i hi;by_cases hlt:i<N q;·have h1:=AJ (W0:=W0) (L:=L) (X:=[]) hg (h.one hlt) hl;have hc:=needC hlt;refine Wm ?_;refine nD hg 1 Z ?_;refine Hq Z Z O<|NC Z Z Z h1<|Hq Z Z O<|Hq Z Z O<|Hq Z Z O<|wKv (v:=J U (i+1:Nat)) Z Z O (Bv Y Y Y)<|wKv (v:=S [q.getD i 0]) Z Z bY48 (congrArg S hc)<|wBk (c:=false) Z Z Az<|OE ?_;refine Wm ?_;exact haN (i+1) (by show i+1≤N q;omega) (by show N q-(i+1)<N q-i;omega)<|B8 1 (frC (frS<|rdB hL) frN)<|fzC Z (Af V)<|fS<|fI<|fI fzN
 ·have he:i=N q:=by have:i≤N q:=hi;omega
  subst he;refine Wm ?_;refine haE<|kJ ?_;exact pS
theorem UG (hg:hGr W0 G){s:Bz}{a k:Nat}(h:N s<a+k)(ha:a≤N s)(hl:N s≤1000000)(_:k≤5000000000):F6 gH W0 57 [aP 0 0,J U k] (rd s a L) (pv (N s) 252) (rd s a L):=by refine goP 57 47 ?_;refine mL ?_;refine Wm ?_;refine⟨Z,?_⟩;refine mM ?_;refine mL ?_;refine kD ?_;refine vQ Z<|vQ Z<|vQ Z<|vQ Z<|vQ Z<|vQ Z<|vQ Z<|vQ Z<|vQ Z<|vQ Z<|qKv (v:=J U (N s-a:Nat)) Z Z O (Bv Y Y Y)<|qBk (c:=true) Z Z (decide_eq_true Y)<|Ec ?_;refine⟨Z,?_⟩;refine ExP.condT hg Z ?_;refine mR hg ?_;exact Dy hg gN Z Z O<|Dy hg gN Z Z O<|Dy hg gN Z Z O<|Dy hg gN Z Z O<|Dy hg gN Z Z O<|Dy hg gN Z Z O<|Dy hg gN Z Z O<|pPan hg Z Z
theorem numX (hg:hGr W0 G){s:Bz}{a:Nat}(h:N s<a+4)(ha:a≤N s)(hl:N s≤1000000):F6 gH W0 58 [aP 0 0,J U 4] (rd s a L) (pv (N s) 252) (rd s a L):=by refine goP 58 23 ?_;refine mL ?_;refine Wm ?_;refine⟨Z,?_⟩;refine mM ?_;refine mM ?_;refine mR hg ?_;exact Dy hg gN Z Z O<|Dy hg gN Z Z O<|O6 hg Z (UG (k:=4) hg h ha hl V) Z
theorem needX (hg:hGr W0 G)(hL:blw 0 L=true){s q:Bz}{a i:Nat}(h:Seg s a<|q.take i)(hi:i<N q)(hs:N s=a+i)(hl:N s≤1000000)(hq:N q≤1000):F6 gH W0 21 [aP 0 0,S q] (rd s a L) (pv (N s) 252) (rd s (a+i) L):=by
 refine goP 21 26 ?_;refine mL ?_;refine Wm ?_;refine⟨Z,?_⟩;refine mU ?_;refine ExP.lpN (λj=>⟨.al [(0,aP 0 0),(1,S q),(6,J U<|N q),(7,J U j)],rd s (a+j) L,26⟩) i (B8 1 (frC (frS<|rdB hL) frN) (fzC Z (Af V)<|fS<|fI<|fI fzN) (hm:=bC 1)) (λj hj=>?_) ?_
 ·have hc:=needC (q:=q) (i:=j) Y;have h1:=AJ (W0:=W0) (L:=L) (X:=[]) hg (h.one (i:=j) UA) hl;have e:(q.take i).getD j 0=q.getD j 0:=by rw[eZ,nG hj,←eZ]
  rw[e]at h1;refine Wm ?_;refine nD hg 1 Z ?_;refine Hq Z Z O<|NC Z Z Z h1<|Hq Z Z O<|Hq Z Z O<|Hq Z Z O<|wKv (v:=J U (j+1:Nat)) Z Z O (Bv Y Y Y)<|wKv (v:=S [q.getD j 0]) Z Z bY48 (congrArg S hc)<|wBk (c:=false) Z Z Az<|OE ?_;refine Wm ?_;exact⟨Z,B8 1 (frC (frS<|rdB hL) frN) (fzC Z (Af V)<|fS<|fI<|fI fzN) (hm:=bC 1)⟩
 ·refine mL ?_;refine Wm ?_;refine⟨Z,?_⟩;refine mL ?_;refine Wm ?_;refine⟨Z,?_⟩;refine mM ?_;refine mU ?_;refine mL ?_;refine Wm ?_;refine⟨Z,?_⟩;refine mM ?_;refine ExP.draw (d0:=11) hg 1 (by show 1<8;decide) ?_<|λ_=>Z;exact ML V Z O<|bPan Z (UG (k:=1) hg Y Y hl V)<|ML V Z O<|ML V Z O<|ML V Z O<|bKv (u:=J U (i+1:Nat)) V Z O (Bv Y Y Y)<|ML V Z bY48<|bDead V Z O
theorem encU {i:Nat}(hi:i<5):(Utf8.encode<|IntKind.i32.wrap ((i+1:Nat):Int)).data.toList=Ad 1 (i+1):=by have:i=0∨i=1∨i=2∨i=3∨i=4:=Y;rcases this with rfl|rfl|rfl|rfl|rfl<;>(show _=_;kernel_rfl)
theorem secS (hg:hGr W0 G)(hL:blw 0 L=true){s b:Bz}{a i:Nat}(hi:i<5)(h:Seg s a<|Rn i b)(hl:N s≤1000000):cP W0 22 [aP 0 0,J U (i+1:Nat)] (rd s a L) (S b) (rd s (a+9+N b) L):=by
 have hb:N b≤N s:=by have:=h.len;simp only[Rn,lAp]at this;omega
 have h0:=RH (W0:=W0) (L:=L) hg hL (q:=Ad 1<|i+1) h.l hl (by rw[Ak];decide);have h1:=num4 (W0:=W0) (L:=L) hg hL h.r.l hl<|Ak _ _;have h2:=AJ (W0:=W0) (L:=L) (X:=[]) hg h.r.r.l hl;have h3:=num4 (W0:=W0) (L:=L) hg hL h.r.r.r hl<|Ak _ _;have h4:=sumP (W0:=W0) hg (s:=b) Y;simp only[Ak]at h0 h1 h2 h3;rw[Hm,mP Y]at h1;rw[Hm,mP<|Nat.lt_trans (CY _) V]at h3;rw[show a+1+4=a+5 by omega]at h1 h2 h3;rw[show a+5+N b+4=a+9+N b by omega]at h3;have h5:=λH=>gW (W0:=W0) (P:=gH) Z Z h4 H;have hu:=encU hi;refine goW 22 29 1 ?_;refine Wm ?_;rw[hu];refine mC Z h0 ?_;refine Wm ?_;refine mF Z ?_ (hb:=by simp);exact We
theorem secX (hg:hGr W0 G)(hL:blw 0 L=true){s b:Bz}{a i k:Nat}(hi:i<5)(hs:Seg s a<|(Ad 1 (i+1)++(Ad 4 (N b)++(b++Ad 4 (Lo b)))).take k)(hk:k<9+N b)(hsl:N s=a+k)(hl:N s≤1000000)(hb:N b≤1000000):∃a',F6 gH W0 22 [aP 0 0,J U (i+1:Nat)] (rd s a L) (pv (N s) 252) (rd s a' L):=by
 have hu:=encU hi;have n1:N (Ad 1<|i+1)=1:=Ak _ _;have n4:N (Ad 4<|N b)=4:=Ak _ _;have m4:N (Ad 4<|Lo b)=4:=Ak _ _;have key:∀a',F6 gH W0 22 [aP 0 0,J U (i+1:Nat)] (rd s a L) (pv (N s) 252) (rd s a' L)→∃a',F6 gH W0 22 [aP 0 0,J U (i+1:Nat)] (rd s a L) (pv (N s) 252) (rd s a' L):=λa' h=>⟨a',h⟩;by_cases h0:k=0;·subst h0;have h:=needX (L:=L) hg hL (q:=Ad 1<|i+1) (i:=0) (s:=s) (a:=a) hs (by rw[n1];decide) hsl hl (by rw[n1];decide);refine key (a+0) ?_;refine goP 22 29 ?_;refine mL ?_;refine Wm ?_;refine⟨Z,?_⟩;refine mM ?_;refine mR hg ?_;refine Dy hg gN Z Z O<|Dy hg gN Z Z O<|Dy hg gN Z Z O<|Dy hg gN Z Z O ?_;rw[hu];exact O6 hg Z h Z
 have q1:Seg s a (Ad 1<|i+1):=by rw[mN,n1,bU Y]at hs;exact hs.l
 have s1:Seg s (a+1) ((Ad 4 (N b)++(b++Ad 4 (Lo b))).take<|k-1):=by rw[mN,n1,bU Y]at hs;have:=hs.r;rw[n1]at this;exact this
 have c1:=RH (L:=L) hg hL q1 hl (by rw[n1];decide);rw[n1]at c1;by_cases h1:k<5;·have h:=numX (L:=L) hg (s:=s) (a:=a+1) Y Y hl;refine key (a+1) ?_;refine goP 22 29 ?_;refine mL ?_;refine Wm ?_;refine⟨Z,?_⟩;refine mL ?_;refine Wm ?_;rw[hu];refine mC Z c1 ?_;refine Wm ?_;refine⟨Z,?_⟩;refine mM ?_;refine mR hg ?_;exact Dy hg gN Z Z O<|Dy hg gN Z Z O<|O6 hg Z h Z
 have q2:Seg s (a+1) (Ad 4<|N b):=by rw[mN,n4,bU Y]at s1;exact s1.l
 have s2:Seg s (a+5) ((b++Ad 4 (Lo b)).take<|k-5):=by rw[mN,n4,bU Y]at s1;have:=s1.r;rw[n4,show k-1-4=k-5 by omega,show a+1+4=a+5 by omega]at this;exact this
 have c2:=num4 (L:=L) hg hL q2 hl n4;rw[Hm,mP Y,show a+1+4=a+5 by omega]at c2;by_cases h2:k<5+N b;·have h:=UG (L:=L) hg (s:=s) (a:=a+5) (k:=N b) Y Y hl Y;refine key (a+5) ?_;refine goP 22 29 ?_;refine mL ?_;refine Wm ?_;refine⟨Z,?_⟩;refine mL ?_;refine Wm ?_;rw[hu];refine mC Z c1 ?_;refine Wm ?_;refine⟨Z,?_⟩;refine mM ?_;refine mR hg ?_;exact Dy hg gN Z Z O<|Dy hg gN Z Z O<|pOK hg gN Z Z c2<|O6 hg Z h Z
 have q3:Seg s (a+5) b:=by rw[mN,bU Y]at s2;exact s2.l
 have c3:=AJ (L:=L) (X:=[]) hg q3 hl;have h:=numX (L:=L) hg (s:=s) (a:=a+5+N b) Y Y hl;refine key (a+5+N b) ?_;refine goP 22 29 ?_;refine mL ?_;refine Wm ?_;refine⟨Z,?_⟩;refine mL ?_;refine Wm ?_;rw[hu];refine mC Z c1 ?_;refine Wm ?_;refine⟨Z,?_⟩;refine mL ?_;refine Wm ?_;refine⟨Z,?_⟩;refine mL ?_;refine Wm ?_;refine⟨Z,?_⟩;refine mM ?_;refine mM ?_;refine mR hg ?_;exact Dy hg gN Z Z O<|O6 hg Z h Z
end
end Go.Abs
namespace Go.Abs
open Go.RowKit
def c3 (n:Nat)(F:Nat→Nat→AVal):List AVal:=(eD<|n*3).map λj=>F (j/3)<|j%3
theorem Ya {n:Nat}{F:Nat→Nat→AVal}:N (c3 n F)=n*3:=by simp[c3]
theorem Y9 {n k:Nat}{F:Nat→Nat→AVal}:(c3 n F)[k]?=if k<n*3 then some (F (k/3)<|k%3)else none:=by
 rw[c3,nE];by_cases h:k<n*3;·rw[nN h,if_pos h];rfl
 ·rw[mY Jo,if_neg h];rfl
theorem c3_set {n:Nat}{F:Nat→Nat→AVal}{i f:Nat}{v:AVal}(hi:i<n)(hf:f<3):spl (c3 n F) (0+i*3+f) [v]=c3 n λj g=>if j=i∧g=f then v else F j g:=by
 apply mX;intro k;have hl:=Ya (n:=n) (F:=F);show((c3 n F).take (0+i*3+f)++([v]++(c3 n F).drop (0+i*3+f+1)))[k]?=_;rw[Y9,bS];by_cases h:k<i*3+f;·rw[List.getElem?_append_left UA,nG h,Y9,if_neg (Y:¬(k/3=i∧k%3=f))]
 ·rw[mW UA,lW,Nat.min_eq_left Y];by_cases e:k=i*3+f;·subst e;rw[Nat.sub_self,if_pos Y,if_pos (Y:(i*3+f)/3=i∧(i*3+f)%3=f)];rfl
  ·rw[mW Jo,List.getElem?_drop,Y9,if_neg (Y:¬(k/3=i∧k%3=f))];simp only[lCo,lNi];rw[show i*3+f+1+(k-(i*3+f)-(0+1))=k by omega]
theorem Zv :∀(n:Nat) (F:Nat→Nat→AVal),D7 3 n (c3 n F)=(eD n).map λj=>aG [F j 0,F j 1,F j 2]
 |0,_=>rfl
 |n+1,F=>by
  have e:c3 (n+1) F=F 0 0::F 0 1::F 0 2::c3 n λj=>F (j+1):=by
   apply mX;intro k;rw[Y9]
   match k with
   |0=>rw[if_pos Y];rfl|1=>rw[if_pos Y];rfl|2=>rw[if_pos Y];rfl
   |k+3=>
    rw[eT,eT,eT,Y9];by_cases h:k<n*3;·rw[if_pos Y,if_pos h,show(k+3)/3=k/3+1 by omega,show(k+3)%3=k%3 by omega]
    ·rw[if_neg Y,if_neg h]
  rw[e];show aG [F 0 0,F 0 1,F 0 2]::D7 3 n (c3 n λj=>F<|j+1)=_;rw[Zv n,List.range_succ_eq_map,jZ,List.map_map];rfl
theorem c3_bl {m n:Nat}{F:Nat→Nat→AVal}(h:∀j f,blw m (F j f)=true):A9 m (c3 n F)=true:=by
 have:∀l:List Nat,A9 m (l.map λj=>F (j/3)<|j%3)=true:=λl=>by induction l with|nil=>rfl|cons a l ih=>rw[jZ];show cond (blw m _) _ false=true;rw[h,ih];rfl
 exact this _
theorem Tn {H:Hz}{n k id len T:Nat}{cs es:List AVal}{cp:Option Nat}{op:Bool}(hn:n≤id)(hk:1≤k)(ho:H[id]?=some (C T cs op))(hl:len*k=N cs)(hc:D7 k len cs=es)(hb:A9 0 es=true):FzV H n (aH k id 0 len cp) (aR k es):=by
 obtain⟨f,hf⟩:=Iu (H:=H) (n:=n) es hb;refine .inl ⟨f+1,?_⟩;have h1:bB id n=false:=BG Y;have h2:bK 1 k=true:=by rw[Nat.ble_eq];exact hk
 have h3:(aA 0 0&&aA (len*k) (N cs))=true:=by rw[hl];simp
 cases op with|true=>simp only[frz,h1,cond_false,h2,cond_true,ho,h3,hc,hf f<|bC _]|false=>simp only[frz,h1,cond_false,h2,cond_true,ho,List.drop_zero,hc,hf f<|bC _]
theorem Ss {G:List (Nat×AVal)}{s:St}{x i:AOpd}{m n id T:Nat}{c:Option Nat}{cs:List AVal}(hx:ev G s x=some (aH 3 id 0 m c))(hi:ev G s i=some (J U (n:Nat)))(ho:s.H[id]?=some (C T cs false)):aop G s (.idxSl 3 x i)=some (.val (aP id<|0+n*3) s.H [(0,(n:Nat)),((n:Nat)+1,(m:Nat))]):=by
 have hl:Mc s.H id=true:=by simp only[Mc,ho]
 simp only[aop,hx,hi,Int.toNat_natCast,hl,fY,kC,cond_true]
theorem AY {G:List (Nat×AVal)}{s:St}{a x:AOpd}{n i f id T:Nat}{F:Nat→Nat→AVal}{v:AVal}{H':Hz}(ha:ev G s a=some (aP id<|0+i*3+f))(hx:ev G s x=some v)(ho:s.H[id]?=some (C T (c3 n F) false))(hi:i<n)(hf:f<3)(hv:v.cells=[v])(h1:v.one=true)(hH:s.H.set id (C T (c3 n λj g=>if j=i∧g=f then v else F j g) false)=H'):aop G s (.store 1 a x)=some (.skip H'):=by
 refine Jb ha hx ho ?_ ?_;·rw[hv];simp only[lCo,lNi,List.all_cons,h1,List.all_nil,Ya,Bool.and_true,bAt,Nat.ble_eq];exact⟨Z,Y⟩
 ·rw[hv,c3_set hi hf];exact hH
def g3 (A B Cx:Nat→AVal)(x y z:AVal)(a b c:Nat)(k f:Nat):AVal:=match f with
 |0=>if k<a then A k else x|1=>if k<b then B k else y|2=>if k<c then Cx k else z|_=>z
section
variable {A B Cx : Nat → AVal} {x y z : AVal} {n i : Nat}
theorem g3_z :Io [x,y,z] (n*3)=c3 n (g3 A B Cx x y z 0 0 0):=by refine List.map_congr_left λj _=>?_;have:j%3=0∨j%3=1∨j%3=2:=Y;show[x,y,z].getD (j%3) _=_;rcases this with h|h|h<;>rw[h]<;>rfl
theorem g3_0 {b c:Nat}:(λj g=>if j=i∧g=0 then A i else g3 A B Cx x y z i b c j g)=g3 A B Cx x y z (i+1) b c:=by
 funext j g
 match g with
 |0=>
  show(if j=i∧0=0 then A i else if j<i then A j else x)=if j<i+1 then A j else x;by_cases h:j=i;·subst h;simp
  ·by_cases h2:j<i;·rw[if_neg Y,if_pos h2,if_pos Y]
   ·rw[if_neg Y,if_neg h2,if_neg Y]
 |1=>rw[if_neg Y];rfl|2=>rw[if_neg Y];rfl|g+3=>rw[if_neg Y];rfl
theorem g3_1 {a c:Nat}:(λj g=>if j=i∧g=1 then B i else g3 A B Cx x y z a i c j g)=g3 A B Cx x y z a (i+1) c:=by
 funext j g
 match g with
 |1=>
  show(if j=i∧1=1 then B i else if j<i then B j else y)=if j<i+1 then B j else y;by_cases h:j=i;·subst h;simp
  ·by_cases h2:j<i;·rw[if_neg Y,if_pos h2,if_pos Y]
   ·rw[if_neg Y,if_neg h2,if_neg Y]
 |0=>rw[if_neg Y];rfl|2=>rw[if_neg Y];rfl|g+3=>rw[if_neg Y];rfl
theorem g3_2 {a b:Nat}:(λj g=>if j=i∧g=2 then Cx i else g3 A B Cx x y z a b i j g)=g3 A B Cx x y z a b (i+1):=by
 funext j g
 match g with
 |2=>
  show(if j=i∧2=2 then Cx i else if j<i then Cx j else z)=if j<i+1 then Cx j else z;by_cases h:j=i;·subst h;simp
  ·by_cases h2:j<i;·rw[if_neg Y,if_pos h2,if_pos Y]
   ·rw[if_neg Y,if_neg h2,if_neg Y]
 |0=>rw[if_neg Y];rfl|1=>rw[if_neg Y];rfl|g+3=>rw[if_neg Y];rfl
theorem g3_bl {m a b c:Nat}(hA:∀k,blw m (A k)=true)(hB:∀k,blw m (B k)=true)(hC:∀k,blw m (Cx k)=true)(hx:blw m x=true)(hy:blw m y=true)(hz:blw m z=true):A9 m (c3 n<|g3 A B Cx x y z a b c)=true:=c3_bl λj f=>by match f with|0=>show blw m (if j<a then A j else x)=true;split;exact hA j;exact hx|1=>show blw m (if j<b then B j else y)=true;split;exact hB j;exact hy|2=>show blw m (if j<c then Cx j else z)=true;split;exact hC j;exact hz|f+3=>exact hz
theorem g3_f {α:Type}{l:List α}{d:α}{F:α→AVal}(h:∀k,k<N l→F (l.getD k d)=aG [A k,B k,Cx k]):D7 3 (N l) (c3 (N l)<|g3 A B Cx x y z (N l) (N l)<|N l)=l.map F:=by
 rw[Zv];apply mX;intro k;by_cases hk:k<N l;·rw[nE,nE,nN hk,gGe hk,bQ,bQ];have:=h k hk;rw[eZ,gGe hk,mO]at this;rw[this];simp only[g3,if_pos hk]
 ·rw[mY Jo,mY Jo]
end
section
variable {P : Program} {W0 : World} {G : List (Nat × AVal)} {p : SP}
variable {l : List (Nat × AVal)} {H H' : Hz} {n j σ : Nat} {M : HMap} {pd : List Pd} {K : St → Prop} {r : List AOper}
theorem jC {d:Nat}{op:AOp}{f:Nat}{args:List AVal}{v:AVal}(hc:A5 P W0 f args H v H')(k:C7 P W0 G p r (j+1) (SP.nxt σ j) ((SP.nxt σ j,H')::M) pd ⟨.al ((d,v)::l),H',n⟩ K)(h:aop G ⟨.al l,H,n⟩ op=some (.call f args):=by with_unfolding_all exact rfl)(hd:(Nat.blt d n&&Nat.blt d 4094)=true:=by with_unfolding_all rfl)(he:(p.eff j&&(nEq (p.steps σ) [j]&& !(Dx (SP.nxt σ j) M)))=true:=by kernel_rfl)
 (hp:Ik P W0 G p (SP.nxt σ j) H' n pd:=by repeat (first|exact pdN|refine pdC (cN (by dsimp only;decide+kernel)) ?_|refine pdC (cY (by dsimp only;decide+kernel)<|evY rfl trivial) ?_)):C7 P W0 G p (⟨some d,none,op⟩::r) j σ M pd ⟨.al l,H,n⟩ K:=V7 h hd hc he hp k
theorem jE {d:Nat}{op:AOp}{v:AVal}{side:List (Int×Int)}(h:aop G ⟨.al l,H,n⟩ op=some (.val v H' side))(k:C7 P W0 G p r (j+1) (SP.nxt σ j) ((SP.nxt σ j,H')::M) pd ⟨.al ((d,v)::l),H',n⟩ K)(hs:Ah side:=by first|with_unfolding_all exact trivial|(simp only[Ah,and_true,By];omega))(hd:(Nat.blt d n&&Nat.blt d 4094)=true:=by with_unfolding_all rfl)(he:(p.eff j&&(nEq (p.steps σ) [j]&& !(Dx (SP.nxt σ j) M)))=true:=by kernel_rfl)
 (hp:Ik P W0 G p (SP.nxt σ j) H' n pd:=by repeat (first|exact pdN|refine pdC (cN (by dsimp only;decide+kernel)) ?_|refine pdC (cY (by dsimp only;decide+kernel)<|evY rfl trivial) ?_)):C7 P W0 G p (⟨some d,none,op⟩::r) j σ M pd ⟨.al l,H,n⟩ K:=Rm h hd hs he hp k
theorem jS {op:AOp}(h:aop G ⟨.al l,H,n⟩ op=some (.skip H'))(k:C7 P W0 G p r (j+1) (SP.nxt σ j) ((SP.nxt σ j,H')::M) pd ⟨.al l,H',n⟩ K)(he:(p.eff j&&(nEq (p.steps σ) [j]&& !(Dx (SP.nxt σ j) M)))=true:=by kernel_rfl)
 (hp:Ik P W0 G p (SP.nxt σ j) H' n pd:=by repeat (first|exact pdN|refine pdC (cN (by dsimp only;decide+kernel)) ?_|refine pdC (cY (by dsimp only;decide+kernel)<|evY rfl trivial) ?_)):C7 P W0 G p (⟨none,none,op⟩::r) j σ M pd ⟨.al l,H,n⟩ K:=Ql h he hp k
theorem jV {d:Nat}{op:AOp}{v v0:AVal}{side:List (Int×Int)}(h:aop G ⟨.al l,H,n⟩ op=some (.val v0 H side))(hv:v0=v)(k:C7 P W0 G p r (j+1) σ M (cond (Nat.beq (p.kind.getD j 0) 0|| !(p.states.any λx=>!(Dx x M)&&p.mayB x j)) pd (⟨j,⟨some d,none,op⟩,.al l,v⟩::pd)) ⟨.al ((d,v)::l),H,n⟩ K)(hs:Ah side:=by first|with_unfolding_all exact trivial|(simp only[Ah,and_true,By];omega))(hd:(Nat.blt d n&&Nat.blt d 4094)=true:=by with_unfolding_all rfl)
 (he:(!(p.eff j)&&(Nat.beq (p.kind.getD j 0) 0||(M.all λx=>Nat.beq x.1 σ|| !(p.mayB x.1 j))))=true:=by kernel_rfl):C7 P W0 G p (⟨some d,none,op⟩::r) j σ M pd ⟨.al l,H,n⟩ K:=by
 subst hv;exact Gk h hd hs he k
theorem jQ {d:Nat}{op:AOp}{v:AVal}(h:aop G ⟨.al l,H,n⟩ op=some (.val v H []))(k:C7 P W0 G p r (j+1) σ M (cond (Nat.beq (p.kind.getD j 0) 0|| !(p.states.any λx=>!(Dx x M)&&p.mayB x j)) pd (⟨j,⟨some d,none,op⟩,.al l,v⟩::pd)) ⟨.al ((d,v)::l),H,n⟩ K)(hd:(Nat.blt d n&&Nat.blt d 4094)=true:=by with_unfolding_all rfl)
 (he:(!(p.eff j)&&(Nat.beq (p.kind.getD j 0) 0||(M.all λx=>Nat.beq x.1 σ|| !(p.mayB x.1 j))))=true:=by kernel_rfl):C7 P W0 G p (⟨some d,none,op⟩::r) j σ M pd ⟨.al l,H,n⟩ K:=Gk h hd trivial he k
theorem jN (k:K ⟨.al l,H,n⟩)(h:(Nat.beq σ p.fin&&nEq (p.steps σ) []&&p.states.all λx=>Dx x M)=true:=by kernel_rfl):C7 P W0 G p [] j σ M pd ⟨.al l,H,n⟩ K:=⟨h,k⟩
theorem Wc {A B:Prop}(k:B)(h:Wrp B→A:=by
 intro wk
 repeat (first
  |with_reducible refine jQ Ce ?_|refine jS Ce ?_|with_reducible refine jN ?_)
 exact wk.x):A:=h ⟨k⟩
end
end Go.Abs
namespace Go.Abs
open Go.Proofs Go.RowKit
set_option maxRecDepth 100000
variable {W0 : World} {G : List (Nat × AVal)}
def Br (T:List Bz):AVal:=aR 1<|T.map S
theorem Bf {T:List Bz}:blw 0 (Br T)=true:=Cd T
attribute [simp] Bf B6 C2 Cd B7
theorem fR {m:Nat}{l:List (Nat×AVal)}{H:Hz}{n:Nat}{s:St}(k:Nat)
 (hH:FrH s.H k (s.H.take k) H:=by repeat' first|exact frN|refine frC ?_ ?_|(refine frS ?_;first|rfl|assumption|exact Bf|(simp;done))|refine frO ?_|exact flN|refine flC ?_ ?_|exact fvI|exact fvB|exact fvS|exact Am|exact O3|(refine Af ?_;decide)|(refine D2 ?_;decide)|(refine Au ?_;first|rfl|assumption|exact Bf|(simp;done))|(refine J8 ?_;omega)|(refine H6 ?_ ?_<;>first|decide|omega))
 (h:K6 s.H k s.env l:=by repeat' first|exact fzN|refine fzC rfl ?_ ?_|exact fvI|exact fvB|exact fvS|exact Am|exact O3|(refine Af ?_;decide)|(refine D2 ?_;decide)|(refine Au ?_;first|rfl|assumption|exact Bf|(simp;done))|(refine J8 ?_;omega)|(refine H6 ?_ ?_<;>first|decide|omega))
 (hn:n=s.n:=by rfl) (hm:m≤k:=by first|exact Nat.zero_le _|decide):Fh m ⟨.al l,H,n⟩ s:=B8 k hH h hn hm
theorem textS (hg:hGr W0 G){s q:Bz}{a n:Nat}{T:List Bz}(h:Seg s a<|Ad 2 n)(hl:N s≤1000000)(hn:n<N T)(hT:N T≤60000)(hq:T.getD n []=q):cP W0 90 [aP 0 0] (rd s a<|Br T) (S q) (rd s (a+2)<|Br T):=by have h1:=numS (W0:=W0) (L:=Br T) hg Bf h hl (Ak _ _) V;rw[Hm,mP Y]at h1;refine goW 90 22 1 ?_;refine Wm ?_;refine mF Z ?_ (hb:=dF (by simp only[jY];omega));refine Wm ?_;refine mS (Fe (f:=S) (d:=[]) Z Z Z hn) ?_ (hs:=by simp only[Ah,and_true];omega);rw[hq];refine Wm ?_;exact We
theorem FP {T:List Bz}{i:Nat}(h:i<N T):T.take (i+1)=T.take i++[T.getD i []]:=by rw[lK h,eZ,gGe h,mO]
theorem fmTk0 {T:List Bz}(h:0<N T):T.take (0+1)=[T.getD 0 []]:=by rw[FP h];rfl
theorem S8 {α:Type}{f:α→Bz}{l:List α}{s:Bz}{a i:Nat}(d:α)(h:Seg s a<|l.flatMap f)(hi:i<N l):Seg s (a+N ((l.take i).flatMap f)) (f<|l.getD i d):=by
 have e:l.flatMap f=(l.take i).flatMap f++(f (l.getD i d)++(l.drop<|i+1).flatMap f):=by
  conv=>lhs;rw[←List.take_append_drop i l,fQ hi]
  rw[List.flatMap_append,lA,eZ,gGe hi,mO]
 rw[e]at h;exact h.r.l
def dtS (s:Bz)(T:List Bz):Nat→St
 |0=>⟨.al [(0,aP 0 0),(3,J U<|N T),(4,J U (0:Nat))],rd s 2 aN,20⟩|i+1=>⟨.al [(0,aP 0 0),(3,J U<|N T),(4,J U (i+1:Nat))],rdX s (2+N ((T.take<|i+1).flatMap dcB)) (aH 1 2 0 (N<|T.take<|i+1) none) [C 9 [S<|T.getD 0 []] false,C 9 (Cf<|T.take<|i+1) true],20⟩
set_option maxHeartbeats 4000000 in
theorem dictR (hg:hGr W0 G){T:List Bz}{s:Bz}(hs:s=Ld T)(h0:0<N T)(hT:N T≤60000)(hq:∀q∈T,N q≤60000)(hl:N s≤1000000):cP W0 60 [aP 0 0] (rd s 0 aN) (aU []) (rd s (2+N (T.flatMap dcB))<|Br T):=by
 have hS:Seg s 0 (Ad 2 (N T)++T.flatMap dcB):=⟨[],[],by rw[hs,List.append_nil];rfl,rfl⟩;have hF:=hS.r;rw[Ak,Nat.zero_add]at hF;have r0:=numS (W0:=W0) (L:=aN) hg Z hS.l hl (Ak _ _) V;rw[Hm,Nat.mod_eq_of_lt Y,Nat.zero_add]at r0;have rn:∀(i:Nat) (L:AVal) (X:Hz),i<N T→(∀(H:Hz) (n:Nat),N X+1≤n→FzV H n L L∧FrH H n X X)→cP W0 58 [aP 0 0,J U (2:Nat)] (rdX s (2+N ((T.take i).flatMap dcB)) L X) (J U<|N<|T.getD i []) (rdX s (2+N ((T.take i).flatMap dcB)+2) L X)∧cP W0 57 [aP 0 0,J U<|N<|T.getD i []] (rdX s (2+N ((T.take i).flatMap dcB)+2) L X) (S<|T.getD i []) (rdX s (2+N ((T.take<|i+1).flatMap dcB)) L X):=λi L X hi hX=>by
  have h1:=S8 [] hF hi;have h2:=numX1 (W0:=W0) hg hX h1.l hl (Ak _ _) V;have h3:=AJ (W0:=W0) (L:=L) (X:=X) hg h1.r hl;have h4:=hq _<|Cb (d:=[]) hi;rw[Hm,Nat.mod_eq_of_lt Y]at h2;rw[Ak]at h3;have e:N ((T.take<|i+1).flatMap dcB)=N ((T.take i).flatMap dcB)+(2+N (T.getD i [])):=by rw[Jy [] hi,lAp,dcB,lAp,Ak]
  rw[show 2+N ((T.take i).flatMap dcB)+2+N (T.getD i [])=2+N ((T.take<|i+1).flatMap dcB)by omega]at h3;exact⟨h2,h3⟩
 refine goW 60 20 1 ?_;refine Wm ?_;refine ExM.lpA (σ:=Nat) (dtS s T) (λi=>i≤N T) (λi=>N T-i) 0 (B8 1 (frC (frS Z) frN)<|fzC Z (Af V)<|fI<|fI fzN) (Nat.zero_le _) ?_;intro i hi;have hi:i≤N T:=hi;by_cases hlt:i<N T
 ·cases i with
  |zero=>obtain⟨r1,r2⟩:=rn 0 aN [] hlt<|hF0 rfl;unfold dtS;refine Wm ?_;refine ExM.drawC hg ?_;refine Wc ?_;refine jC r1 ?_;refine jC r2 ?_;refine jE (v:=aH 1 1 0 1<|some 1) Z ?_;refine jE (v:=aH 1 2 0 1 none) Z ?_;refine Wc ?_;refine Wm ?_;exact haN 1 hlt Y<|B8 3 (frC (frO<|flC fvS<|flC fvI<|flC (H6 V (by show 1=N (T.take 1);rw[List.length_take];omega)) flN)<|frC (frS Z)<|frC (by rw[fmTk0 h0];exact frS rfl) frN)<|fzC Z (Af V)<|fI<|fI fzN
  |succ i=>obtain⟨r1,r2⟩:=rn (i+1) (aH 1 2 0 (N<|T.take<|i+1) none) [C 9 [S<|T.getD 0 []] false,C 9 (Cf<|T.take<|i+1) true] hlt<|λH n hn=>⟨D2 (by have:3≤n:=hn;omega),frC (frS rfl)<|frC (frS<|Cd _) frN⟩;unfold dtS;refine Wm ?_;refine ExM.drawC hg ?_;refine Wc ?_;refine jC r1 ?_;refine jC r2 ?_;refine jE (v:=aH 1 3 0 1<|some 1) Z ?_;refine jE (Qi (p:=[T.getD (i+1) []]) Z Z Z Z Z Z) ?_ (hs:=by simp only[Ah,and_true,By,lCo,lNi,List.length_take];omega);refine Wc ?_;refine Wm ?_;exact haN (i+2) hlt Y<|B8 3 (frC (frO<|flC fvS<|flC fvI<|flC (H6 V (by simp only[lAp,lCo,lNi,List.length_take];omega)) flN)<|frC (frS Z)<|frC (by rw[FP hlt];exact frS<|Cd _) frN)<|fzC Z (Af V)<|fI<|fI fzN
 ·obtain⟨n,hn⟩:∃n,N T=n+1:=⟨N T-1,Y⟩;have he:i=n+1:=Y;subst he;have ht:T.take (n+1)=T:=by rw[←hn,List.take_length]
  unfold dtS;refine ExM.fh (s1:=⟨.al [(0,aP 0 0),(3,J U<|N T),(4,J U (n+1:Nat))],rd s (2+N (T.flatMap dcB))<|Br T,20⟩) (B8 1 (frC (frO<|flC fvS<|flC (J8 (by rw[ht]))<|flC (Tn V V Z LG (by rw[ht];have:=Lh T [];rw[List.append_nil]at this;exact this)<|Cd _) flN) frN)<|fzC Z (Af V)<|fI<|fI fzN) ?_;refine Wm ?_;refine haE<|kJ ?_;exact pS
theorem rcN (hg:hGr W0 G){s:Bz}{a w n:Nat}{T:List Bz}(h:Seg s a<|Ad w n)(hl:N s≤1000000)(hw:w≤4)(hn:n<256^w)(X:Hz):cP W0 58 [aP 0 0,J U w] (rdX s a (Br T) X) (J U n) (rdX s (a+w) (Br T) X):=by have h1:=numS (W0:=W0) (L:=Br T) hg Bf h hl (Ak _ _) hw;rw[Hm,mP hn]at h1;exact NG (wr:=.returned) (H:=rdX s a (Br T) X) (i:=0) Bf Z Z Z h1
theorem rcT (hg:hGr W0 G){s q:Bz}{a n:Nat}{T:List Bz}(h:Seg s a<|Ad 2 n)(hl:N s≤1000000)(hn:n<N T)(hT:N T≤60000)(hq:T.getD n []=q)(X:Hz):cP W0 90 [aP 0 0] (rdX s a (Br T) X) (S q) (rdX s (a+2) (Br T) X):=NG (wr:=.returned) (H:=rdX s a (Br T) X) (i:=0) Bf rfl rfl rfl<|textS hg h hl hn hT hq
def InT (T:List Bz)(ix:Bz→Nat)(q:Bz):Prop:=ix q<N T∧T.getD (ix q) []=q
theorem oAppS2 {s:St}{x y:AOpd}{l:List PSh}{q:PSh}{m jd vd:Nat}{c c':Option Nat}{H':Hz}(hm:N l=m)(hx:ev G s x=some (aH 2 jd 0 m c))(hy:ev G s y=some (aH 2 vd 0 1 c'))(hj:s.H[jd]?=some (C 44 (shC l) true))(hv:s.H[vd]?=some (C 44 (shL q) false))(hH:s.H.set jd (C 44 (shC<|l++[q]) true)=H'):
 aop G s (.append 44 2 40 x y)=some (.val (aH 2 jd 0 (m+1) none) H' [(((m+1)*40:Nat),By),((m+1:Nat),By)]):=by
 subst hH;subst hm;have hl:aA (N l*2) (N<|shC l)=true:=bY187;have hy':Cm 2 s.H (aH 2 vd 0 1 c')=some (shL q,1):=by simp only[Cm,hv];rfl
 have e:shC (l++[q])=shC l++shL q:=by simp[shC]
 rw[e];simp only[aop,hx,hy,P2,hy',G7,hj,hl,fY,cond_true,kC];rfl
def sP (shs:List PSh)(ix:Bz→Nat)(i:Nat):Nat:=1+N ((shs.take i).flatMap<|shB ix)
theorem JM {shs:List PSh}{ix:Bz→Nat}{i:Nat}(h:i<N shs):sP shs ix (i+1)=sP shs ix i+(4+(shs.getD i ps0).cs.length*4):=by rw[sP,Jy ps0 h,lAp,Wp,sP];omega
theorem Kr (x:PSh){n:Nat}:A9 n (shL x)=true:=by show cond (blw n<|aR 3<|x.cs.map pcV) true false=true;rw[show blw n (aR 3<|x.cs.map pcV)=true from C2 _];rfl
theorem shT2 {shs:List PSh}{i:Nat}(h:i<N shs):shs.take (i+1)=shs.take i++[shs.getD i ps0]:=by rw[lK h,eZ,gGe h,mO]
theorem shT1 {shs:List PSh}(h:0<N shs):shs.take (0+1)=[shs.getD 0 ps0]:=shT2 h
abbrev cl3 (cs:List PCl):Nat→Nat→Nat→Nat→Nat→AVal:=g3 (λk=>J U<|(cs.getD k pc0).r) (λk=>J U<|(cs.getD k pc0).c) (λk=>S (cs.getD k pc0).s) (J U 0) (J U 0)<|S []
theorem LN {cs:List PCl}{i b c:Nat}:(λj g=>if j=i∧g=0 then J U ((cs.getD i pc0).r)else cl3 cs i b c j g)=cl3 cs (i+1) b c:=g3_0 (A:=λk=>J U<|(cs.getD k pc0).r)
theorem LI {cs:List PCl}{i a c:Nat}:(λj g=>if j=i∧g=1 then J U ((cs.getD i pc0).c)else cl3 cs a i c j g)=cl3 cs a (i+1) c:=g3_1 (B:=λk=>J U<|(cs.getD k pc0).c)
theorem KD {cs:List PCl}{i a b:Nat}:(λj g=>if j=i∧g=2 then S (cs.getD i pc0).s else cl3 cs a b i j g)=cl3 cs a b (i+1):=g3_2 (Cx:=λk=>S (cs.getD k pc0).s)
theorem cBl {cs:List PCl}{m n:Nat}(a b c:Nat):A9 m (c3 n<|cl3 cs a b c)=true:=g3_bl (λ_=>Z) (λ_=>Z) (λ_=>Z) Z Z Z
attribute [simp] cBl Kr
def shX (shs:List PSh):Nat→Hz
 |0=>[C 31 [aN,aN,aN,aN] false]|i+1=>[C 31 [aH 2 4 0 (N<|shs.take<|i+1) none,aN,aN,aN] false,C 44 (shL<|shs.getD 0 ps0) false,C 44 (shL<|shs.getD 0 ps0) false,C 44 (shC<|shs.take<|i+1) true]
def shS (s:Bz)(T:List Bz)(ix:Bz→Nat)(shs:List PSh)(i:Nat):St:=⟨.al [(0,aP 0 0),(1,aP 1 0),(9,J U<|N shs),(10,J U i)],rdX s (sP shs ix i) (Br T)<|shX shs i,72⟩
set_option maxHeartbeats 8000000 in
theorem sheetsR (hg:hGr W0 G){T:List Bz}{ix:Bz→Nat}{shs:List PSh}{s:Bz}(hs:s=Gt ix shs)(h0:0<N shs)(hl:N s≤1000000)(hT:N T≤60000)(hn:N shs<256)(hI:∀q∈Ei shs,InT T ix q)
 (h3:∀x∈shs,N x.cs<60000) (h4:∀x∈shs,∀c∈x.cs,c.r<256∧c.c<256):cP W0 61 [aP 0 0,aP 1 0] (rdX s 0 (Br T) [C 31 [aN,aN,aN,aN] false]) (aU []) (rdX s (N s) (Br T) [C 31 [aR 2<|shs.map psV,aN,aN,aN] false]):=by
 have hS:Seg s 0 (Ad 1 (N shs)++shs.flatMap (shB ix)):=⟨[],[],by rw[hs,List.append_nil];rfl,rfl⟩;have hF:=hS.r;rw[Ak,Nat.zero_add]at hF;have r0:=rcN (W0:=W0) (T:=T) hg hS.l hl V Y [C 31 [aN,aN,aN,aN] false];rw[Nat.zero_add]at r0;have shF:∀i,i<N shs→(∀X,cP W0 90 [aP 0 0] (rdX s (sP shs ix i) (Br T) X) (S (shs.getD i ps0).nm)<|rdX s (sP shs ix i+2) (Br T) X)∧
  (∀X,cP W0 58 [aP 0 0,J U (2:Nat)] (rdX s (sP shs ix i+2) (Br T) X) (J U<|(shs.getD i ps0).cs.length)<|rdX s (sP shs ix i+2+2) (Br T) X)∧
  (∀j,j<(shs.getD i ps0).cs.length→∀X,cP W0 58 [aP 0 0,J U (1:Nat)] (rdX s (sP shs ix i+(4+j)) (Br T) X) (J U<|((shs.getD i ps0).cs.getD j pc0).r)<|rdX s (sP shs ix i+(4+j)+1) (Br T) X)∧
  (∀j,j<(shs.getD i ps0).cs.length→∀X,cP W0 58 [aP 0 0,J U (1:Nat)] (rdX s (sP shs ix i+(4+(shs.getD i ps0).cs.length+j)) (Br T) X) (J U<|((shs.getD i ps0).cs.getD j pc0).c)<|rdX s (sP shs ix i+(4+(shs.getD i ps0).cs.length+j)+1) (Br T) X)∧
  (∀j,j<(shs.getD i ps0).cs.length→∀X,cP W0 90 [aP 0 0] (rdX s (sP shs ix i+(4+(shs.getD i ps0).cs.length+(shs.getD i ps0).cs.length+j*2)) (Br T) X) (S ((shs.getD i ps0).cs.getD j pc0).s)<|rdX s (sP shs ix i+(4+(shs.getD i ps0).cs.length+(shs.getD i ps0).cs.length+j*2)+2) (Br T) X):=λi hi=>by
  have h:=S8 ps0 hF hi;have hx:=Cb (d:=ps0) hi;have hc:=h3 _ hx;generalize hxx:shs.getD i ps0=x at h hx hc;have hP:1+N ((shs.take i).flatMap<|shB ix)=sP shs ix i:=rfl;rw[hP]at h;have hin:∀q∈shT x,InT T ix q:=λq hq=>hI q<|List.mem_flatMap.2 ⟨x,hx,hq⟩;have hc1:=h.r.r.l;have hc2:=h.r.r.r.l;have hc3:=h.r.r.r.r;have fl:∀(f:PCl→Bz) (w:Nat),(∀c,N (f c)=w)→∀l:List PCl,N (l.flatMap f)=N l*w:=λf w hf l=>by induction l with|nil=>simp|cons c l ih=>rw[List.flatMap_cons,lAp,hf,ih,lCo,Nat.add_mul];omega
  have l1:=fl (λc=>Ad 1 c.r) 1<|λc=>Ak _ _;have l2:=fl (λc=>Ad 1 c.c) 1<|λc=>Ak _ _;have l3:=fl (λc=>Ad 2<|ix c.s) 2<|λc=>Ak _ _;simp only[Ak,l1,l2,Nat.mul_one]at hc1 hc2 hc3;have n0:=hin x.nm<|List.mem_cons_self ..;have t2:=h.r.l;rw[Ak]at t2;refine⟨rcT hg h.l hl n0.1 hT n0.2,rcN hg t2 hl V (by show _<65536;omega),λj hj=>?_,λj hj=>?_,λj hj=>?_⟩;·have g:=S8 pc0 hc1 hj;rw[l1,List.length_take,Nat.min_eq_left Y,Nat.mul_one]at g;rw[show sP shs ix i+(4+j)=sP shs ix i+2+2+j by omega];exact rcN hg g hl V (by have:=(h4 x hx _<|Cb (d:=pc0) hj).1;omega)
  ·have g:=S8 pc0 hc2 hj;rw[l2,List.length_take,Nat.min_eq_left Y,Nat.mul_one]at g;rw[show sP shs ix i+(4+N x.cs+j)=sP shs ix i+2+2+N x.cs+j by omega];exact rcN hg g hl V (by have:=(h4 x hx _<|Cb (d:=pc0) hj).2;omega)
  ·have g:=S8 pc0 hc3 hj;rw[l3,List.length_take,Nat.min_eq_left Y]at g;rw[show sP shs ix i+(4+N x.cs+N x.cs+j*2)=sP shs ix i+2+2+N x.cs+N x.cs+j*2 by omega];have n1:=hin (x.cs.getD j pc0).s<|List.mem_cons_of_mem _<|List.mem_map_of_mem<|Cb (d:=pc0) hj;exact rcT hg g hl n1.1 hT n1.2
 have hend:N s=sP shs ix (N shs):=by rw[hs,Gt,lAp,Ak,sP,List.take_length]
 refine goW 61 72 2 ?_;refine Wm ?_;refine ExM.lpA (σ:=Nat) (shS s T ix shs) (λi=>i≤N shs) (λi=>N shs-i) 0 (fR 2) (Nat.zero_le _) ?_;intro i hi;have hi:i≤N shs:=hi;by_cases hlt:i<N shs
 ·cases i with
  |zero=>
   obtain⟨t1,t2,t3,t4,t5⟩:=shF 0 hlt;generalize hcs:(shs.getD 0 ps0).cs=cs at t2 t3 t4 t5;have hcl:=h3 _<|Cb (d:=ps0) hlt;rw[hcs]at hcl;unfold shS shX;refine Wm ?_;refine mS (v:=aH 3 3 0 (N cs)<|some<|N cs) (by show some (ARes.val (aH 3 3 0 (N cs)<|some<|N cs) (_++[C 81 (Io [J U 0,J U 0,S []]<|N cs*3) false]) _)=_;rw[g3_z (A:=λk=>J U<|(cs.getD k pc0).r) (B:=λk=>J U<|(cs.getD k pc0).c) (Cx:=λk=>S (cs.getD k pc0).s)]) ?_ (hs:=by simp only[Ah,and_true];omega);refine Wm ?_;refine ExM.lpC (λj=>⟨.al [(0,aP 0 0),(1,aP 1 0),(4,aP 2 0),(21,J U<|N cs),(22,J U j),(9,J U<|N shs),(10,J U (0:Nat))],rdX s (sP shs ix 0+(4+j)) (Br T)<|[C 31 [aN,aN,aN,aN] false]++[C 44 [S (shs.getD 0 ps0).nm,aH 3 3 0 (N cs)<|some<|N cs] false,C 81 (c3 (N cs)<|cl3 cs j 0 0) false],72⟩) (N cs) (B8 4 (frC (frO<|flC fvS<|flC (J8 Y)<|flC (Au Bf) flN)<|frC (frS Z)<|frC (frO<|flC fvS<|flC (D2 V) flN)<|frC (frS<|cBl _ _ _) frN)<|fzC Z (Af V)<|fzC Z (Af V)<|fzC Z (Af (id:=2) (off:=0) V)<|fI<|fI<|fI<|fI fzN) (λj hjl=>?_) ?_ ?_;·refine Wm ?_;refine ExM.drawC hg ?_;refine Wc ?_;refine jC (t3 j hjl _) ?_;refine jV (Ss Z Z Z) Z ?_;refine Wc ?_;refine jS (AY Z Z Z hjl V Z Z Z) ?_;refine Wc ?_;refine Wm ?_;exact lcN<|B8 4 (frC (frO<|flC fvS<|flC (J8 Y)<|flC (Au Bf) flN)<|frC (frS Z)<|frC (frO<|flC fvS<|flC (D2 V) flN)<|frC (by rw[←LN];exact frS (by rw[LN];exact cBl _ _ _)) frN)<|fzC Z (Af V)<|fzC Z (Af V)<|fzC Z (Af (id:=2) (off:=0) V)<|fI<|fI<|fI<|fI fzN
   ·refine Wm ?_;exact lcE<|fR 4
   refine Wm ?_;refine ExM.lpC (λj=>⟨.al [(0,aP 0 0),(1,aP 1 0),(4,aP 2 0),(35,J U<|N cs),(36,J U j),(9,J U<|N shs),(10,J U (0:Nat))],rdX s (sP shs ix 0+(4+N cs+j)) (Br T)<|[C 31 [aN,aN,aN,aN] false]++[C 44 [S (shs.getD 0 ps0).nm,aH 3 3 0 (N cs)<|some<|N cs] false,C 81 (c3 (N cs)<|cl3 cs (N cs) j 0) false],72⟩) (N cs) (fR 4) (λj hjl=>?_) ?_ ?_;·refine Wm ?_;refine ExM.drawC hg ?_;refine Wc ?_;refine jC (t4 j hjl _) ?_;refine jV (Ss Z Z Z) Z ?_;refine Wc ?_;refine jS (AY Z Z Z hjl V Z Z Z) ?_;refine Wc ?_;refine Wm ?_;exact lcN<|B8 4 (frC (frO<|flC fvS<|flC (J8 Y)<|flC (Au Bf) flN)<|frC (frS Z)<|frC (frO<|flC fvS<|flC (D2 V) flN)<|frC (by rw[←LI];exact frS (by rw[LI];exact cBl _ _ _)) frN)<|fzC Z (Af V)<|fzC Z (Af V)<|fzC Z (Af (id:=2) (off:=0) V)<|fI<|fI<|fI<|fI fzN
   ·refine Wm ?_;exact lcE<|fR 4
   refine Wm ?_;refine ExM.lpC (λj=>⟨.al [(0,aP 0 0),(1,aP 1 0),(4,aP 2 0),(49,J U<|N cs),(50,J U j),(9,J U<|N shs),(10,J U (0:Nat))],rdX s (sP shs ix 0+(4+N cs+N cs+j*2)) (Br T)<|[C 31 [aN,aN,aN,aN] false]++[C 44 [S (shs.getD 0 ps0).nm,aH 3 3 0 (N cs)<|some<|N cs] false,C 81 (c3 (N cs)<|cl3 cs (N cs) (N cs) j) false],72⟩) (N cs) (fR 4) (λj hjl=>?_) ?_ ?_;·refine Wm ?_;refine ExM.drawC hg ?_;refine Wc ?_;refine jC (t5 j hjl _) ?_;refine jV (Ss Z Z Z) Z ?_;refine Wc ?_;refine jS (AY Z Z Z hjl V Z Z Z) ?_;refine Wc ?_;refine Wm ?_;exact lcN<|B8 4 (frC (frO<|flC fvS<|flC (J8 Y)<|flC (Au Bf) flN)<|frC (frS Z)<|frC (frO<|flC fvS<|flC (D2 V) flN)<|frC (by rw[←KD];exact frS (by rw[KD];exact cBl _ _ _)) frN)<|fzC Z (Af V)<|fzC Z (Af V)<|fzC Z (Af (id:=2) (off:=0) V)<|fI<|fI<|fI<|fI fzN
   ·refine Wm ?_;exact lcE<|fR 4
   refine Wm ?_;refine ExM.fh (s1:=⟨.al [(0,aP 0 0),(1,aP 1 0),(4,aP 2 0),(9,J U<|N shs),(10,J U (0:Nat))],rdX s (sP shs ix 0+(4+N cs+N cs+N cs*2)) (Br T)<|[C 31 [aN,aN,aN,aN] false]++[C 44 [S (shs.getD 0 ps0).nm,aR 3<|cs.map pcV] false],72⟩) ?_ ?_;·exact(B8 3 (frC (frO<|flC fvS<|flC fvI<|flC (Au Bf) flN)<|frC (frS Z)<|frC (frO<|flC fvS<|flC (Tn V V Z Ya.symm (g3_f (d:=pc0) λk _=>Z)<|C2 _) flN) frN)<|fzC Z (Af V)<|fzC Z (Af V)<|fzC Z (Af (id:=2) (off:=0) V)<|fI<|fI fzN)
   refine ExM.drawC hg ?_;refine Wc ?_;refine jE (v:=aH 2 3 0 1<|some 1) Z ?_;refine jE (v:=aH 2 4 0 1 none) Z ?_;refine Wc ?_;refine Wm ?_;exact haN 1 hlt Y<|B8 5 (frC (frO<|flC fvS<|flC (J8 (by rw[JM hlt,hcs];omega))<|flC (Au Bf) flN)<|frC (frO<|flC (H6 V (by simp only[List.length_take];omega))<|flC Am<|flC Am<|flC Am flN)<|frC (by rw[←hcs];exact frS<|Kr _)<|frC (by rw[←hcs];exact frS<|Kr _)<|frC (by rw[shT1 hlt,hcs.symm];exact frS<|B7 [shs.getD 0 ps0]) frN)<|fzC Z (Af V)<|fzC Z (Af V)<|fI<|fI fzN
  |succ i=>
   obtain⟨t1,t2,t3,t4,t5⟩:=shF (i+1) hlt;generalize hcs:(shs.getD (i+1) ps0).cs=cs at t2 t3 t4 t5;have hcl:=h3 _<|Cb (d:=ps0) hlt;rw[hcs]at hcl;unfold shS shX;refine Wm ?_;refine mS (v:=aH 3 6 0 (N cs)<|some<|N cs) (by show some (ARes.val (aH 3 6 0 (N cs)<|some<|N cs) (_++[C 81 (Io [J U 0,J U 0,S []]<|N cs*3) false]) _)=_;rw[g3_z (A:=λk=>J U<|(cs.getD k pc0).r) (B:=λk=>J U<|(cs.getD k pc0).c) (Cx:=λk=>S (cs.getD k pc0).s)]) ?_ (hs:=by simp only[Ah,and_true];omega);refine Wm ?_;refine ExM.lpC (λj=>⟨.al [(0,aP 0 0),(1,aP 1 0),(4,aP 5 0),(21,J U<|N cs),(22,J U j),(9,J U<|N shs),(10,J U (i+1:Nat))],rdX s (sP shs ix (i+1)+(4+j)) (Br T)<|[C 31 [aH 2 4 0 (N<|shs.take<|i+1) none,aN,aN,aN] false,C 44 (shL<|shs.getD 0 ps0) false,C 44 (shL<|shs.getD 0 ps0) false,C 44 (shC<|shs.take<|i+1) true]++[C 44 [S (shs.getD (i+1) ps0).nm,aH 3 6 0 (N cs)<|some<|N cs] false,C 81 (c3 (N cs)<|cl3 cs j 0 0) false],72⟩) (N cs) (B8 7 (frC (frO<|flC fvS<|flC (J8 Y)<|flC (Au Bf) flN)<|frC (frO<|flC (D2 V)<|flC Am<|flC Am<|flC Am flN)<|frC (frS<|Kr _)<|frC (frS<|Kr _)<|frC (frS<|B7 _)<|frC (frO<|flC fvS<|flC (D2 V) flN)<|frC (frS<|cBl _ _ _) frN)<|fzC Z (Af V)<|fzC Z (Af V)<|fzC Z (Af (id:=5) (off:=0) V)<|fI<|fI<|fI<|fI fzN) (λj hjl=>?_) ?_ ?_;·refine Wm ?_;refine ExM.drawC hg ?_;refine Wc ?_;refine jC (t3 j hjl _) ?_;refine jV (Ss Z Z Z) Z ?_;refine Wc ?_;refine jS (AY Z Z Z hjl V Z Z Z) ?_;refine Wc ?_;refine Wm ?_;exact lcN<|B8 7 (frC (frO<|flC fvS<|flC (J8 Y)<|flC (Au Bf) flN)<|frC (frO<|flC (D2 V)<|flC Am<|flC Am<|flC Am flN)<|frC (frS<|Kr _)<|frC (frS<|Kr _)<|frC (frS<|B7 _)<|frC (frO<|flC fvS<|flC (D2 V) flN)<|frC (by rw[←LN];exact frS (by rw[LN];exact cBl _ _ _)) frN)<|fzC Z (Af V)<|fzC Z (Af V)<|fzC Z (Af (id:=5) (off:=0) V)<|fI<|fI<|fI<|fI fzN
   ·refine Wm ?_;exact lcE<|fR 7
   refine Wm ?_;refine ExM.lpC (λj=>⟨.al [(0,aP 0 0),(1,aP 1 0),(4,aP 5 0),(35,J U<|N cs),(36,J U j),(9,J U<|N shs),(10,J U (i+1:Nat))],rdX s (sP shs ix (i+1)+(4+N cs+j)) (Br T)<|[C 31 [aH 2 4 0 (N<|shs.take<|i+1) none,aN,aN,aN] false,C 44 (shL<|shs.getD 0 ps0) false,C 44 (shL<|shs.getD 0 ps0) false,C 44 (shC<|shs.take<|i+1) true]++[C 44 [S (shs.getD (i+1) ps0).nm,aH 3 6 0 (N cs)<|some<|N cs] false,C 81 (c3 (N cs)<|cl3 cs (N cs) j 0) false],72⟩) (N cs) (fR 7) (λj hjl=>?_) ?_ ?_;·refine Wm ?_;refine ExM.drawC hg ?_;refine Wc ?_;refine jC (t4 j hjl _) ?_;refine jV (Ss Z Z Z) Z ?_;refine Wc ?_;refine jS (AY Z Z Z hjl V Z Z Z) ?_;refine Wc ?_;refine Wm ?_;exact lcN<|B8 7 (frC (frO<|flC fvS<|flC (J8 Y)<|flC (Au Bf) flN)<|frC (frO<|flC (D2 V)<|flC Am<|flC Am<|flC Am flN)<|frC (frS<|Kr _)<|frC (frS<|Kr _)<|frC (frS<|B7 _)<|frC (frO<|flC fvS<|flC (D2 V) flN)<|frC (by rw[←LI];exact frS (by rw[LI];exact cBl _ _ _)) frN)<|fzC Z (Af V)<|fzC Z (Af V)<|fzC Z (Af (id:=5) (off:=0) V)<|fI<|fI<|fI<|fI fzN
   ·refine Wm ?_;exact lcE<|fR 7
   refine Wm ?_;refine ExM.lpC (λj=>⟨.al [(0,aP 0 0),(1,aP 1 0),(4,aP 5 0),(49,J U<|N cs),(50,J U j),(9,J U<|N shs),(10,J U (i+1:Nat))],rdX s (sP shs ix (i+1)+(4+N cs+N cs+j*2)) (Br T)<|[C 31 [aH 2 4 0 (N<|shs.take<|i+1) none,aN,aN,aN] false,C 44 (shL<|shs.getD 0 ps0) false,C 44 (shL<|shs.getD 0 ps0) false,C 44 (shC<|shs.take<|i+1) true]++[C 44 [S (shs.getD (i+1) ps0).nm,aH 3 6 0 (N cs)<|some<|N cs] false,C 81 (c3 (N cs)<|cl3 cs (N cs) (N cs) j) false],72⟩) (N cs) (fR 7) (λj hjl=>?_) ?_ ?_;·refine Wm ?_;refine ExM.drawC hg ?_;refine Wc ?_;refine jC (t5 j hjl _) ?_;refine jV (Ss Z Z Z) Z ?_;refine Wc ?_;refine jS (AY Z Z Z hjl V Z Z Z) ?_;refine Wc ?_;refine Wm ?_;exact lcN<|B8 7 (frC (frO<|flC fvS<|flC (J8 Y)<|flC (Au Bf) flN)<|frC (frO<|flC (D2 V)<|flC Am<|flC Am<|flC Am flN)<|frC (frS<|Kr _)<|frC (frS<|Kr _)<|frC (frS<|B7 _)<|frC (frO<|flC fvS<|flC (D2 V) flN)<|frC (by rw[←KD];exact frS (by rw[KD];exact cBl _ _ _)) frN)<|fzC Z (Af V)<|fzC Z (Af V)<|fzC Z (Af (id:=5) (off:=0) V)<|fI<|fI<|fI<|fI fzN
   ·refine Wm ?_;exact lcE<|fR 7
   refine Wm ?_;refine ExM.fh (s1:=⟨.al [(0,aP 0 0),(1,aP 1 0),(4,aP 5 0),(9,J U<|N shs),(10,J U (i+1:Nat))],rdX s (sP shs ix (i+1)+(4+N cs+N cs+N cs*2)) (Br T)<|[C 31 [aH 2 4 0 (N<|shs.take<|i+1) none,aN,aN,aN] false,C 44 (shL<|shs.getD 0 ps0) false,C 44 (shL<|shs.getD 0 ps0) false,C 44 (shC<|shs.take<|i+1) true]++[C 44 [S (shs.getD (i+1) ps0).nm,aR 3<|cs.map pcV] false],72⟩) ?_ ?_;·exact(B8 6 (frC (frO<|flC fvS<|flC fvI<|flC (Au Bf) flN)<|frC (frO<|flC (D2 V)<|flC Am<|flC Am<|flC Am flN)<|frC (frS<|Kr _)<|frC (frS<|Kr _)<|frC (frS<|B7 _)<|frC (frO<|flC fvS<|flC (Tn V V Z Ya.symm (g3_f (d:=pc0) λk _=>Z)<|C2 _) flN) frN)<|fzC Z (Af V)<|fzC Z (Af V)<|fzC Z (Af (id:=5) (off:=0) V)<|fI<|fI fzN)
   refine ExM.drawC hg ?_;refine Wc ?_;refine jE (v:=aH 2 6 0 1<|some 1) Z ?_;refine jE (oAppS2 (l:=shs.take<|i+1) (q:=⟨(shs.getD (i+1) ps0).nm,cs⟩) Z Z Z Z Z Z) ?_ (hs:=by simp only[Ah,and_true,By,List.length_take];omega);refine Wc ?_;refine Wm ?_;exact haN (i+2) hlt Y<|B8 5 (frC (frO<|flC fvS<|flC (J8 (by rw[JM hlt,hcs];omega))<|flC (Au Bf) flN)<|frC (frO<|flC (H6 V (by simp only[List.length_take];omega))<|flC Am<|flC Am<|flC Am flN)<|frC (frS<|Kr _)<|frC (frS<|Kr _)<|frC (by rw[shT2 hlt,←hcs];exact frS<|B7 _) frN)<|fzC Z (Af V)<|fzC Z (Af V)<|fI<|fI fzN
 ·obtain⟨n,hn⟩:∃n,N shs=n+1:=⟨N shs-1,Y⟩;have he:i=n+1:=Y;subst he;unfold shS;have ht:shs.take (n+1)=shs:=by rw[←hn,List.take_length]
  refine ExM.fh (s1:=⟨.al [(0,aP 0 0),(1,aP 1 0),(9,J U<|N shs),(10,J U<|N shs)],rdX s (N s) (Br T) [C 31 [aR 2<|shs.map psV,aN,aN,aN] false],72⟩) (B8 2 (frC (frO<|flC fvS<|flC (J8 (by rw[hend,hn]))<|flC (Au Bf) flN)<|frC (frO<|flC (Tn V V Z (by rw[Iw]) (by rw[ht];exact Un shs)<|B6 shs)<|flC Am<|flC Am<|flC Am flN) frN)<|fzC Z (Af V)<|fzC Z (Af V)<|fI<|fzC Z (J8 (by rw[hn])) fzN) ?_;refine Wm ?_;refine haE<|kJ ?_;exact pS
end Go.Abs
namespace Go.Abs
open Go.Proofs Go.RowKit
set_option maxRecDepth 100000
variable {ss : List Bz}
theorem EB {k:Bz}:∀{es:List (Bz×Int)}{n:Nat}{p:Nat×Int},Qf es k n=some p→∃m,p.1=n+m∧(es.map (·.1))[m]?=some k
 | [],_,_,h=>Hu
 |(q,v)::r,n,p,h=>by
  simp only[Qf]at h;by_cases hk:k=q;·subst hk;simp at h;subst h;exact⟨0,Z,Z⟩
  ·simp only[hk,decide_false,cond_false]at h;obtain⟨m,h1,h2⟩:=EB h;exact⟨m+1,Y,h2⟩
theorem Zx {es:List (Bz×Int)}{k q:Bz}{v:Int}(h:q∈es.map (·.1)∨q=k):q∈(Kt es k v).map (·.1):=by
 unfold Kt;cases hf:Qf es k 0 with
 |none=>
  rcases h with h|rfl;·rw[List.map_append];exact eG.2<|.inl h
  ·rw[List.map_append];exact eG.2<|.inr Az
 |some p=>
  obtain⟨m,h1,h2⟩:=EB hf;obtain⟨i,w⟩:=p;have hi:i=m:=by have:i=0+m:=h1;omega
  subst hi;have e:(es.set i (k,v)).map (·.1)=es.map (·.1):=by
   rw[List.map_set];apply mX;intro j;by_cases hj:i=j;·subst hj;have hl:=(aC.1 h2).1;rw[List.getElem?_set_self hl,h2]
   ·rw[List.getElem?_set_ne hj]
  show q∈(es.set i (k,v)).map (·.1);rw[e];rcases h with h|rfl;·exact h
  ·exact mGe h2
theorem getE_in {k:Bz}:∀{es:List (Bz×Int)},k∈es.map (·.1)→(k,Is es k)∈es:=λ{es} h=>by
 rw[JJ];generalize (0:Nat)=n;induction es generalizing n with
 |nil=>cases h
 |cons p r ih=>
  obtain⟨q,v⟩:=p;simp only[Qf];by_cases hk:k=q;·subst hk;simp
  ·simp only[hk,decide_false,cond_false];rw[jZ,eS]at h;exact fF _<|ih (h.resolve_left hk) _
theorem QV :∀{i:Nat}{p:Bz×Int},p∈esN ss i→∃j:Nat,j<i∧p=(ss.getD j [],(j:Int))
 |0,_,h=>Hu
 |i+1,p,h=>by
  rcases FL h with h|rfl;·obtain⟨j,hj,e⟩:=QV h;exact⟨j,Y,e⟩
  ·exact⟨i,Nat.lt_succ_self i,Z⟩
theorem DX :∀{i j:Nat},j<i→ss.getD j []∈(esN ss i).map (·.1)
 |0,_,h=>Y
 |i+1,j,h=>by
  by_cases hj:j=i;·subst hj;exact Zx<|.inr rfl
  ·exact Zx<|.inl<|DX Y
theorem inT_of {q:Bz}(h:q∈ss):InT ss (ixN ss) q:=by
 obtain⟨j,hj⟩:=eX h;have hl:=(aC.1 hj).1;have h1:=DX (ss:=ss) hl;rw[eZ,hj,mO]at h1;obtain⟨i,hi,e⟩:=QV<|getE_in h1;injection e with e1 e2;have:ixN ss q=i:=by rw[ixN,e2];rfl
 exact⟨by rw[this];exact hi,by rw[this];exact e1.symm⟩
theorem DY {L:List Bz}{s:Bz}(h:s∈L):s∈Dj L:=by
 have h1:s∈Qh L:=(List.mergeSort_perm L _).mem_iff.2 h;generalize hl:Qh L=l at h1;have key:∀i:Nat,l[i]?=some s→∃j,l[j]?=some s∧(j=0∨l[j-1]?≠some s):=λi=>by
  induction i with
  |zero=>exact λh=>⟨0,h,.inl rfl⟩
  |succ i ih=>
   intro h;by_cases h2:l[i]?=some s;·exact ih h2
   ·exact⟨i+1,h,.inr h2⟩
 obtain⟨i,hi⟩:=eX h1;obtain⟨j,hj,hk⟩:=key i hi;have hjl:=(aC.1 hj).1;have ga:∀i:Nat,i<N l→l.toArray[i]! =l.getD i []:=λi hi=>by rw[getElem!_pos l.toArray i (by simpa using hi),eZ,gGe hi];simp
 have hs:l.getD j []=s:=by rw[eZ,hj];rfl
 simp only[Dj,hl,gI,List.mem_map,List.mem_filter,List.mem_range];refine⟨j,⟨hjl,?_⟩,by rw[ga j hjl];exact hs⟩;unfold Lib.keeps;rcases hk with rfl|hk;·simp
 ·have:l.getD (j-1) []≠s:=λe=>hk (by rw[gGe Y,←e,eZ,gGe Y,mO]);rw[ga j hjl,ga (j-1) Y,hs];exact decide_eq_true<|.inr<|Ne.symm this
end Go.Abs
namespace Go.Abs
open Go.Proofs Go.RowKit
set_option maxRecDepth 100000
variable {W0 : World} {G : List (Nat × AVal)}
abbrev nm3 (ns:List PNm):Nat→Nat→Nat→Nat→Nat→AVal:=g3 (λk=>S (ns.getD k pn0).n) (λk=>J U (ns.getD k pn0).a) (λk=>S (ns.getD k pn0).f) (S []) (J U 0)<|S []
theorem nm3_0 {ns:List PNm}{i b c:Nat}:(λj g=>if j=i∧g=0 then S (ns.getD i pn0).n else nm3 ns i b c j g)=nm3 ns (i+1) b c:=g3_0 (A:=λk=>S (ns.getD k pn0).n)
theorem nm3_1 {ns:List PNm}{i a c:Nat}:(λj g=>if j=i∧g=1 then J U (ns.getD i pn0).a else nm3 ns a i c j g)=nm3 ns a (i+1) c:=g3_1 (B:=λk=>J U (ns.getD k pn0).a)
theorem nm3_2 {ns:List PNm}{i a b:Nat}:(λj g=>if j=i∧g=2 then S (ns.getD i pn0).f else nm3 ns a b i j g)=nm3 ns a b (i+1):=g3_2 (Cx:=λk=>S (ns.getD k pn0).f)
theorem nBl {ns:List PNm}{m n:Nat}(a b c:Nat):A9 m (c3 n<|nm3 ns a b c)=true:=g3_bl (λ_=>Z) (λ_=>Z) (λ_=>Z) Z Z Z
attribute [simp] nBl
theorem KS {α:Type}{f:α→Bz}{w:Nat}(h:∀c,N (f c)=w):∀l:List α,N (l.flatMap f)=N l*w
 | []=>Az|c::l=>by rw[lA,lAp,h,KS h l,lCo,bE];omega
set_option maxHeartbeats 8000000 in
theorem namesR (hg:hGr W0 G){T:List Bz}{ix:Bz→Nat}{ns:List PNm}{s:Bz}{Sx:List AVal}(hS0:A9 0 Sx=true)(hs:s=AP ix (N ns) ns)(hl:N s≤1000000)(hT:N T≤60000)(hn:N ns<256)(hI:∀p∈ns,InT T ix p.n∧InT T ix p.f)
 (ha:∀p∈ns,-1≤p.a∧p.a<255):cP W0 62 [aP 0 0,aP 1 0] (rdX s 0 (Br T) [C 31 [aR 2 Sx,aN,aN,aN] false]) (aU []) (rdX s (N s) (Br T) [C 31 [aR 2 Sx,aR 3<|ns.map nmV,aN,aN] false]):=by
 have hS:Seg s 0 (Ad 1 (N ns)++(ns.flatMap (nmA ix)++(ns.flatMap nmB++ns.flatMap (nmC ix)))):=⟨[],[],by rw[hs,List.append_nil,AP];simp only[List.append_assoc];rfl,rfl⟩;have f1:=KS (f:=nmA ix) (w:=2) Wg;have f2:=KS (f:=nmB) (w:=1) W6;have f3:=KS (f:=nmC ix) (w:=2) BL;have hA:=hS.r.l;have hB:=hS.r.r.l;have hC:=hS.r.r.r;have hend:1+N ns*2+N ns+N ns*2=N s:=by rw[hs,AP];simp only[lAp,Ak,f1,f2,f3,Nat.mul_one]
 simp only[Ak,f1,f2,Nat.mul_one,Nat.zero_add]at hA hB hC;have r0:=rcN (W0:=W0) (T:=T) hg hS.l hl V Y [C 31 [aR 2 Sx,aN,aN,aN] false];rw[Nat.zero_add]at r0;have t1:∀j,j<N ns→∀X,cP W0 90 [aP 0 0] (rdX s (1+j*2) (Br T) X) (S (ns.getD j pn0).n) (rdX s (1+j*2+2) (Br T) X):=λj hj=>by have g:=S8 pn0 hA hj;rw[f1,List.length_take,Nat.min_eq_left Y,nmA,txB,List.flatMap_cons]at g;have n1:=(hI _<|Cb (d:=pn0) hj).1;exact rcT hg g.l hl n1.1 hT n1.2
 have t2:∀j,j<N ns→∀X,cP W0 58 [aP 0 0,J U (1:Nat)] (rdX s (1+N ns*2+j) (Br T) X) (J U<|((ns.getD j pn0).a+1).toNat) (rdX s (1+N ns*2+j+1) (Br T) X):=λj hj=>by have g:=S8 pn0 hB hj;rw[f2,List.length_take,Nat.min_eq_left Y,nmB,E5,Nat.mul_one,List.flatMap_cons]at g;have n1:=ha _<|Cb (d:=pn0) hj;exact rcN hg g.l hl V Y
 have t3:∀j,j<N ns→∀X,cP W0 90 [aP 0 0] (rdX s (1+N ns*2+N ns+j*2) (Br T) X) (S (ns.getD j pn0).f) (rdX s (1+N ns*2+N ns+j*2+2) (Br T) X):=λj hj=>by have g:=S8 pn0 hC hj;rw[f3,List.length_take,Nat.min_eq_left Y,nmC,txB,List.flatMap_cons]at g;have n1:=(hI _<|Cb (d:=pn0) hj).2;exact rcT hg g.l hl n1.1 hT n1.2
 refine goW 62 68 2 ?_;refine Wm ?_;refine mS (v:=aH 3 2 0 (N ns)<|some<|N ns) (by show some (ARes.val (aH 3 2 0 (N ns)<|some<|N ns) (_++[C 48 (Io [S [],J U 0,S []]<|N ns*3) false]) _)=_;rw[g3_z (A:=λk=>S (ns.getD k pn0).n) (B:=λk=>J U (ns.getD k pn0).a) (Cx:=λk=>S (ns.getD k pn0).f)]) ?_ (hs:=by simp only[Ah,and_true];omega);refine Wm ?_;refine ExM.lpC (λj=>⟨.al [(0,aP 0 0),(1,aP 1 0),(17,J U<|N ns),(18,J U j)],rdX s (1+j*2) (Br T) [C 31 [aR 2 Sx,aH 3 2 0 (N ns)<|some<|N ns,aN,aN] false,C 48 (c3 (N ns)<|nm3 ns j 0 0) false],68⟩) (N ns) ?_ (λj hjl=>?_) ?_ ?_;·exact B8 3 (frC (frO<|flC fvS<|flC (J8 Y)<|flC (Au Bf) flN)<|frC (frO<|flC (Au (v:=aR 2 Sx) hS0)<|flC (D2 V)<|flC Am<|flC Am flN)<|frC (frS<|nBl _ _ _) frN)<|fzC Z (Af (id:=0) (off:=0) V)<|fzC Z (Af (id:=1) (off:=0) V)<|fI<|fI fzN
 ·refine Wm ?_;refine ExM.drawC hg ?_;refine Wc ?_;refine jC (t1 j hjl _) ?_;refine jV (Ss Z Z Z) Z ?_;refine Wc ?_;refine jS (AY Z Z Z hjl V Z Z Z) ?_;refine Wc ?_;refine Wm ?_;exact lcN<|B8 3 (frC (frO<|flC fvS<|flC (J8 Y)<|flC (Au Bf) flN)<|frC (frO<|flC (Au (v:=aR 2 Sx) hS0)<|flC (D2 V)<|flC Am<|flC Am flN)<|frC (by rw[←nm3_0];exact frS (by rw[nm3_0];exact nBl _ _ _)) frN)<|fzC Z (Af (id:=0) (off:=0) V)<|fzC Z (Af (id:=1) (off:=0) V)<|fI<|fI fzN
 ·refine Wm ?_;exact lcE<|fR 3
 refine Wm ?_;refine ExM.lpC (λj=>⟨.al [(0,aP 0 0),(1,aP 1 0),(35,J U<|N ns),(36,J U j)],rdX s (1+N ns*2+j) (Br T) [C 31 [aR 2 Sx,aH 3 2 0 (N ns)<|some<|N ns,aN,aN] false,C 48 (c3 (N ns)<|nm3 ns (N ns) j 0) false],68⟩) (N ns) ?_ (λj hjl=>?_) ?_ ?_;·exact fR 3
 ·refine Wm ?_;refine ExM.drawC hg ?_;refine Wc ?_;refine jC (t2 j hjl _) ?_;refine jV (v:=J U (ns.getD j pn0).a) Z (Bv (by have:=ha _<|Cb (d:=pn0) hjl;omega) (by have:=ha _<|Cb (d:=pn0) hjl;omega) (by have:=ha _<|Cb (d:=pn0) hjl;omega)) ?_;refine jV (Ss Z Z Z) Z ?_;refine Wc ?_;refine jS (AY Z Z Z hjl V Z Z Z) ?_;refine Wc ?_;refine Wm ?_;exact lcN<|B8 3 (frC (frO<|flC fvS<|flC (J8 Y)<|flC (Au Bf) flN)<|frC (frO<|flC (Au (v:=aR 2 Sx) hS0)<|flC (D2 V)<|flC Am<|flC Am flN)<|frC (by rw[←nm3_1];exact frS (by rw[nm3_1];exact nBl _ _ _)) frN)<|fzC Z (Af (id:=0) (off:=0) V)<|fzC Z (Af (id:=1) (off:=0) V)<|fI<|fI fzN
 ·refine Wm ?_;exact lcE<|fR 3
 refine Wm ?_;refine ExM.lpA (σ:=Nat) (λj=>⟨.al [(0,aP 0 0),(1,aP 1 0),(54,J U<|N ns),(55,J U j)],rdX s (1+N ns*2+N ns+j*2) (Br T) [C 31 [aR 2 Sx,aH 3 2 0 (N ns)<|some<|N ns,aN,aN] false,C 48 (c3 (N ns)<|nm3 ns (N ns) (N ns) j) false],68⟩) (λj=>j≤N ns) (λj=>N ns-j) 0 ?_ (Nat.zero_le _) ?_;·exact fR 3
 intro j hj;have hj:j≤N ns:=hj;by_cases hjl:j<N ns;·refine Wm ?_;refine ExM.drawC hg ?_;refine Wc ?_;refine jC (t3 j hjl _) ?_;refine jV (Ss Z Z Z) Z ?_;refine Wc ?_;refine jS (AY Z Z Z hjl V Z Z Z) ?_;refine Wc ?_;refine Wm ?_;exact haN (j+1) hjl Y<|B8 3 (frC (frO<|flC fvS<|flC (J8 Y)<|flC (Au Bf) flN)<|frC (frO<|flC (Au (v:=aR 2 Sx) hS0)<|flC (D2 V)<|flC Am<|flC Am flN)<|frC (by rw[←nm3_2];exact frS (by rw[nm3_2];exact nBl _ _ _)) frN)<|fzC Z (Af (id:=0) (off:=0) V)<|fzC Z (Af (id:=1) (off:=0) V)<|fI<|fI fzN
 ·have he:j=N ns:=by omega
  subst he;refine ExM.fh (s1:=⟨.al [(0,aP 0 0),(1,aP 1 0),(54,J U<|N ns),(55,J U<|N ns)],rdX s (N s) (Br T) [C 31 [aR 2 Sx,aR 3<|ns.map nmV,aN,aN] false],68⟩) ?_ ?_;·exact B8 2 (frC (frO<|flC fvS<|flC (J8 (by rw[hend]))<|flC (Au Bf) flN)<|frC (frO<|flC (Au (v:=aR 2 Sx) hS0)<|flC (Tn V V Z Ya.symm (g3_f (d:=pn0) λk _=>Z)<|Ed _)<|flC Am<|flC Am flN) frN)<|fzC Z (Af (id:=0) (off:=0) V)<|fzC Z (Af (id:=1) (off:=0) V)<|fI<|fI fzN
  refine Wm ?_;refine haE<|kJ ?_;exact pS
def tb0 (x:AVal):List AVal:=[S [116,97,98],J U 0,J U 9,J U 1,J U 2,x]
set_option maxHeartbeats 8000000 in
theorem tablesR (hg:hGr W0 G){T:List Bz}{ix:Bz→Nat}(b:Bool){s:Bz}{K0 K1:AVal}(h0:blw 0 K0=true)(h1:blw 0 K1=true)(hs:s=NF ix b)(hl:N s≤1000000)(hT:N T≤60000)(hI:∀q∈K9 b,InT T ix q):
 cP W0 63 [aP 0 0,aP 1 0] (rdX s 0 (Br T) [C 31 [K0,K1,aN,aN] false]) (aU []) (rdX s (N s) (Br T) [C 31 [K0,K1,aR 6<|tlT b,aN] false]):=by
 cases b with
 |false=>
  have r0:=rcN (W0:=W0) (T:=T) (s:=s) (a:=0) (w:=1) (n:=0) hg ⟨[],[],by rw[hs];rfl,rfl⟩ hl V V [C 31 [K0,K1,aN,aN] false];have e:N s=1:=by rw[hs];rfl
  refine goW 63 43 2 ?_;refine Wm ?_;refine ExM.un 1 ?_;refine ExM.fh (s1:=⟨.al [(6,J U (0:Nat)),(7,J U (0:Nat))],rdX s (N s) (Br T) [C 31 [K0,K1,aR 6 [],aN] false],43⟩) ?_ ?_;·exact fR 2
  refine Wm ?_;refine uE<|kJ ?_;exact pS
 |true=>
  have e:s=Ad 1 1++(Ad 2 (ix [116,97,98])++(Ad 1 0++(Ad 1 9++(Ad 1 1++(Ad 1 2++(Ad 1 2++(Ad 2 (ix [120])++Ad 2 (ix [121,32,121])))))))):=by rw[hs];simp[NF,tlT,txB,E5]
  have i1:=hI [116,97,98] (by simp[K9]);have i2:=hI [120] (by simp[K9]);have i3:=hI [121,32,121] (by simp[K9]);have hS:Seg s 0 (Ad 1 1++(Ad 2 (ix [116,97,98])++(Ad 1 0++(Ad 1 9++(Ad 1 1++(Ad 1 2++(Ad 1 2++(Ad 2 (ix [120])++Ad 2 (ix [121,32,121]))))))))):=⟨[],[],by rw[List.append_nil];exact e,rfl⟩;have s1:=hS.r;have s2:=s1.r;have s3:=s2.r;have s4:=s3.r;have s5:=s4.r;have s6:=s5.r;have s7:=s6.r;have s8:=s7.r;simp only[Ak,Nat.zero_add,Nat.reduceAdd]at s1 s2 s3 s4 s5 s6 s7 s8;have r0:=rcN (W0:=W0) (T:=T) hg hS.l hl V V;have r1:=rcT (W0:=W0) (T:=T) hg s1.l hl i1.1 hT i1.2;have r2:=rcN (W0:=W0) (T:=T) hg s2.l hl V V;have r3:=rcN (W0:=W0) (T:=T) hg s3.l hl V V;have r4:=rcN (W0:=W0) (T:=T) hg s4.l hl V V;have r5:=rcN (W0:=W0) (T:=T) hg s5.l hl V V;have r6:=rcN (W0:=W0) (T:=T) hg s6.l hl V V;have r7:=rcT (W0:=W0) (T:=T) hg s7.l hl i2.1 hT i2.2;have r8:=rcT (W0:=W0) (T:=T) hg s8 hl i3.1 hT i3.2;have hend:N s=12:=by rw[e];rfl
  clear hS s1 s2 s3 s4 s5 s6 s7 s8;refine goW 63 43 2 ?_;refine Wm ?_;refine ExM.un 2 ?_;refine Wm ?_;refine ExM.un 3 ?_;refine Wm ?_;refine ExM.drawC hg ?_;refine Wc ?_;refine jC (r7 _) ?_;refine jE (v:=aH 1 3 0 1<|some 1) Z ?_;refine jE (v:=aH 1 4 0 1 none) Z ?_;refine Wc ?_;refine Wm ?_;refine uN ?_;refine Wm ?_;refine ExM.drawC hg ?_;refine Wc ?_;refine jC (r8 _) ?_;refine jE (v:=aH 1 5 0 1<|some 1) Z ?_;refine jE (Qi (l:=[[120]]) (p:=[[121,32,121]]) Z Z Z Z Z Z) ?_ (hs:=by simp only[Ah,and_true,By,lCo,lNi];omega);refine Wc ?_;refine Wm ?_;refine uN ?_;refine Wm ?_;refine uE<|kJ ?_ (hj:=by with_unfolding_all rfl);refine ExM.fh (s1:=⟨.al [(0,aP 0 0),(1,aP 1 0),(4,aP 2 0),(6,J U (1:Nat)),(7,J U (0:Nat))],rdX s 12 (Br T) [C 31 [K0,K1,aN,aN] false,C 51 (tb0<|aR 1 [S [120],S [121,32,121]]) false],43⟩) ?_ ?_;·exact B8 3 (frC (frO<|flC fvS<|flC fvI<|flC (Au Bf) flN)<|frC (frO<|flC (Au h0)<|flC (Au h1)<|flC Am<|flC Am flN)<|frC (frO<|flC fvS<|flC fvI<|flC fvI<|flC fvI<|flC fvI<|flC (Tn V V Z Z Z Z) flN) frN)<|fzC Z (Af (id:=0) (off:=0) V)<|fzC Z (Af (id:=1) (off:=0) V)<|fzC Z (Af (id:=2) (off:=0) V)<|fI<|fI fzN
  refine ExM.drawC hg ?_;refine Wc ?_;refine jE (v:=aH 6 3 0 1<|some 1) Z ?_;refine jE (v:=aH 6 4 0 1 none) Z ?_;refine Wc ?_;refine Wm ?_;refine uN ?_;refine ExM.fh (s1:=⟨.al [(6,J U (1:Nat)),(7,J U (1:Nat))],rdX s (N s) (Br T) [C 31 [K0,K1,aR 6<|tlT true,aN] false],43⟩) ?_ ?_;·exact B8 2 (frC (frO<|flC fvS<|flC (J8 (by rw[hend]))<|flC (Au Bf) flN)<|frC (frO<|flC (Au h0)<|flC (Au h1)<|flC (Tn V V Z Z Z Z)<|flC Am flN) frN)<|fI<|fI fzN
  refine Wm ?_;refine uE<|kJ ?_;exact pS
theorem oAppR8 {s:St}{x y:AOpd}{l:List PRl}{q:PRl}{m jd vd:Nat}{c c':Option Nat}{H':Hz}(hm:N l=m)(hx:ev G s x=some (aH 8 jd 0 m c))(hy:ev G s y=some (aH 8 vd 0 1 c'))(hj:s.H[jd]?=some (C 64 (rlC l) true))(hv:s.H[vd]?=some (C 64 (rlL q) false))(hH:s.H.set jd (C 64 (rlC<|l++[q]) true)=H'):
 aop G s (.append 64 8 72 x y)=some (.val (aH 8 jd 0 (m+1) none) H' [(((m+1)*72:Nat),By),((m+1:Nat),By)]):=by
 subst hH;subst hm;have hl:aA (N l*8) (N<|rlC l)=true:=by rw[Ta];exact fY _
 have hy':Cm 8 s.H (aH 8 vd 0 1 c')=some (rlL q,1):=by simp only[Cm,hv];rfl
 have e:rlC (l++[q])=rlC l++rlL q:=by simp[rlC]
 rw[e];simp only[aop,hx,hy,P2,hy',G7,hj,hl,fY,cond_true,kC];rfl
def rP (rs:List PRl)(ix:Bz→Nat)(i:Nat):Nat:=1+N ((rs.take i).flatMap<|rbB ix)
theorem KK {rs:List PRl}{ix:Bz→Nat}{i:Nat}(h:i<N rs):rP rs ix (i+1)=rP rs ix i+9:=by rw[rP,Jy rl0 h,lAp,CS,rP];omega
theorem rlT2 {rs:List PRl}{i:Nat}(h:i<N rs):rs.take (i+1)=rs.take i++[rs.getD i rl0]:=by rw[lK h,eZ,gGe h,mO]
theorem rlT1 {rs:List PRl}(h:0<N rs):rs.take (0+1)=[rs.getD 0 rl0]:=rlT2 h
def rlA (r:PRl):List AVal:=[J U r.a,J U r.b,J U r.c,J U r.d,J U r.e]
def rlX (K0 K1 K2:AVal)(rs:List PRl):Nat→Hz
 |0=>[C 31 [K0,K1,K2,aN] false]|i+1=>[C 31 [K0,K1,K2,aH 8 4 0 (N<|rs.take<|i+1) none] false,C 62 (rlA<|rs.getD 0 rl0) false,C 64 (rlL<|rs.getD 0 rl0) false,C 64 (rlC<|rs.take<|i+1) true]
def rlS (s:Bz)(T:List Bz)(ix:Bz→Nat)(K0 K1 K2:AVal)(rs:List PRl)(i:Nat):St:=⟨.al [(0,aP 0 0),(1,aP 1 0),(6,J U<|N rs),(7,J U i)],rdX s (rP rs ix i) (Br T)<|rlX K0 K1 K2 rs i,39⟩
set_option maxHeartbeats 8000000 in
theorem rulesR (hg:hGr W0 G){T:List Bz}{ix:Bz→Nat}{rs:List PRl}{s:Bz}{K0 K1 K2:AVal}(h0:blw 0 K0=true)(h1:blw 0 K1=true)(h2:blw 0 K2=true)(hs:s=FV ix (N rs) rs)(hl:N s≤1000000)(hT:N T≤60000)(hn:N rs<256)(hI:∀r∈rs,InT T ix r.f)
 (ha:∀r∈rs,(0≤r.a∧r.a<256)∧(0≤r.b∧r.b<256)∧(0≤r.c∧r.c<256)∧(0≤r.d∧r.d<256)∧(0≤r.e∧r.e<256)∧(0≤r.g∧r.g<256)):cP W0 64 [aP 0 0,aP 1 0] (rdX s 0 (Br T) [C 31 [K0,K1,K2,aN] false]) (aU []) (rdX s (N s) (Br T) [C 31 [K0,K1,K2,aR 8<|rs.map rlV] false]):=by
 have hS:Seg s 0 (Ad 1 (N rs)++rs.flatMap (rbB ix)):=⟨[],[],by rw[hs,List.append_nil];rfl,rfl⟩;have hF:=hS.r;rw[Ak,Nat.zero_add]at hF;have r0:=rcN (W0:=W0) (T:=T) hg hS.l hl V Y [C 31 [K0,K1,K2,aN] false];rw[Nat.zero_add]at r0;have one:∀{a:Nat}{x:Int},Seg s a (Ad 1 x.toNat)→0≤x∧x<256→∀X,cP W0 58 [aP 0 0,J U 1] (rdX s a (Br T) X) (J U x) (rdX s (a+1) (Br T) X):=λ{a x} h hx X=>by have h:=rcN (W0:=W0) (T:=T) hg h hl V (by show x.toNat<256;omega) X;rw[Int.toNat_of_nonneg hx.1]at h;exact h
 have ruF:∀i,i<N rs→(∀X,cP W0 58 [aP 0 0,J U 1] (rdX s (rP rs ix i) (Br T) X) (J U (rs.getD i rl0).a)<|rdX s (rP rs ix i+1) (Br T) X)∧
  (∀X,cP W0 58 [aP 0 0,J U 1] (rdX s (rP rs ix i+1) (Br T) X) (J U (rs.getD i rl0).b)<|rdX s (rP rs ix i+2) (Br T) X)∧
  (∀X,cP W0 58 [aP 0 0,J U 1] (rdX s (rP rs ix i+2) (Br T) X) (J U (rs.getD i rl0).c)<|rdX s (rP rs ix i+3) (Br T) X)∧
  (∀X,cP W0 58 [aP 0 0,J U 1] (rdX s (rP rs ix i+3) (Br T) X) (J U (rs.getD i rl0).d)<|rdX s (rP rs ix i+4) (Br T) X)∧
  (∀X,cP W0 58 [aP 0 0,J U 1] (rdX s (rP rs ix i+4) (Br T) X) (J U (rs.getD i rl0).e)<|rdX s (rP rs ix i+5) (Br T) X)∧
  (∀X,cP W0 90 [aP 0 0] (rdX s (rP rs ix i+5) (Br T) X) (S (rs.getD i rl0).f)<|rdX s (rP rs ix i+7) (Br T) X)∧
  (∀X,cP W0 58 [aP 0 0,J U 1] (rdX s (rP rs ix i+7) (Br T) X) (J U (rs.getD i rl0).g)<|rdX s (rP rs ix i+8) (Br T) X)∧
  (∀X,cP W0 58 [aP 0 0,J U 1] (rdX s (rP rs ix i+8) (Br T) X) (J U<|cond (rs.getD i rl0).h 1 0)<|rdX s (rP rs ix i+9) (Br T) X):=λi hi=>by
  have h:=S8 rl0 hF hi;have hx:=Cb (d:=rl0) hi;generalize hxx:rs.getD i rl0=x at h hx;obtain⟨xa,xb,xc,xd,xe,xg⟩:=ha x hx;have n0:=hI x hx;have e:rbB ix x=Ad 1 x.a.toNat++(Ad 1 x.b.toNat++(Ad 1 x.c.toNat++(Ad 1 x.d.toNat++(Ad 1 x.e.toNat++(Ad 2 (ix x.f)++(Ad 1 x.g.toNat++Ad 1 (cond x.h 1 0))))))):=by simp[rbB,E5,txB]
  rw[e]at h;have hP:1+N ((rs.take i).flatMap<|rbB ix)=rP rs ix i:=rfl;rw[hP]at h;have s2:=h.r;have s3:=s2.r;have s4:=s3.r;have s5:=s4.r;have s6:=s5.r;have s7:=s6.r;have s8:=s7.r;simp only[Ak,Nat.add_assoc,Nat.reduceAdd]at s2 s3 s4 s5 s6 s7 s8;refine⟨one h.l xa,one s2.l xb,one s3.l xc,one s4.l xd,one s5.l xe,rcT hg s6.l hl n0.1 hT n0.2,one s7.l xg,?_⟩;intro X;have h8:=rcN (W0:=W0) (T:=T) hg s8 hl V (by cases x.h<;>decide) X;have e8:(((cond x.h 1 0:Nat)):Int)=(cond x.h 1 0:Int):=by cases x.h<;>rfl
  rw[e8]at h8;exact h8
 clear one;have hend:N s=rP rs ix (N rs):=by rw[hs,FV,lAp,Ak,rP,List.take_length]
 refine goW 64 39 2 ?_;refine Wm ?_;refine ExM.lpA (σ:=Nat) (rlS s T ix K0 K1 K2 rs) (λi=>i≤N rs) (λi=>N rs-i) 0 ?_ (Nat.zero_le _) ?_;·exact B8 2 (frC (frO<|flC fvS<|flC fvI<|flC (Au Bf) flN)<|frC (frO<|flC (Au h0)<|flC (Au h1)<|flC (Au h2)<|flC Am flN) frN)<|fzC Z (Af (id:=0) (off:=0) V)<|fzC Z (Af (id:=1) (off:=0) V)<|fI<|fI fzN
 intro i hi;have hi:i≤N rs:=hi;by_cases hlt:i<N rs
 ·cases i with
  |zero=>obtain⟨t1,t2,t3,t4,t5,t6,t7,t8⟩:=ruF 0 hlt;obtain⟨p,hp⟩:∃p,p=rP rs ix 0:=⟨_,rfl⟩;unfold rlS rlX;rw[←hp]at t1 t2 t3 t4 t5 t6 t7 t8⊢;refine Wm ?_;refine ExM.drawC hg ?_;refine Wc ?_;refine jC (t6 _) ?_;refine Wc ?_;refine jC (t7 _) ?_;refine Wc ?_;refine jC (t8 _) ?_;refine jV (v:=I (rs.getD 0 rl0).h) rfl (by cases(rs.getD 0 rl0).h<;>rfl) ?_;refine Wc ?_;refine jE (v:=aH 8 3 0 1<|some 1) Z ?_;refine jE (v:=aH 8 4 0 1 none) Z ?_;refine Wc ?_;refine Wm ?_;exact haN 1 hlt Y<|B8 5 (frC (frO<|flC fvS<|flC (J8 (by rw[hp,KK hlt]))<|flC (Au Bf) flN)<|frC (frO<|flC (Au h0)<|flC (Au h1)<|flC (Au h2)<|flC (H6 V (by simp only[List.length_take];omega)) flN)<|frC (frS Z)<|frC (frS Z)<|frC (by rw[rlT1 hlt];exact frS<|I3 [rs.getD 0 rl0]) frN)<|fzC Z (Af (id:=0) (off:=0) V)<|fzC Z (Af (id:=1) (off:=0) V)<|fI<|fI fzN
  |succ i=>obtain⟨t1,t2,t3,t4,t5,t6,t7,t8⟩:=ruF (i+1) hlt;obtain⟨p,hp⟩:∃p,p=rP rs ix (i+1):=⟨_,rfl⟩;unfold rlS rlX;rw[←hp]at t1 t2 t3 t4 t5 t6 t7 t8⊢;refine Wm ?_;refine ExM.drawC hg ?_;refine Wc ?_;refine jC (t6 _) ?_;refine Wc ?_;refine jC (t7 _) ?_;refine Wc ?_;refine jC (t8 _) ?_;refine jV (v:=I (rs.getD (i+1) rl0).h) rfl (by cases(rs.getD (i+1) rl0).h<;>rfl) ?_;refine Wc ?_;refine jE (v:=aH 8 6 0 1<|some 1) Z ?_;refine jE (oAppR8 (l:=rs.take<|i+1) (q:=rs.getD (i+1) rl0) Z Z Z Z Z Z) ?_ (hs:=by simp only[Ah,and_true,By,List.length_take];omega);refine Wc ?_;refine Wm ?_;exact haN (i+2) hlt Y<|B8 5 (frC (frO<|flC fvS<|flC (J8 (by rw[hp,KK hlt]))<|flC (Au Bf) flN)<|frC (frO<|flC (Au h0)<|flC (Au h1)<|flC (Au h2)<|flC (H6 V (by simp only[List.length_take];omega)) flN)<|frC (frS Z)<|frC (frS Z)<|frC (by rw[rlT2 hlt];exact frS<|I3 _) frN)<|fzC Z (Af (id:=0) (off:=0) V)<|fzC Z (Af (id:=1) (off:=0) V)<|fI<|fI fzN
 ·have he:i=N rs:=by omega
  have hE:∀(X:Hz) (v:AVal) (H:Hz),FzV (rdX s (rP rs ix<|N rs) (Br T) (C 31 [K0,K1,K2,v] false::X)) 2 v (aR 8<|rs.map rlV)→Fh 2 ⟨.al [(0,aP 0 0),(1,aP 1 0),(6,J U<|N rs),(7,J U<|N rs)],rdX s (N s) (Br T) [C 31 [K0,K1,K2,aR 8<|rs.map rlV] false],39⟩ ⟨.al [(0,aP 0 0),(1,aP 1 0),(6,J U<|N rs),(7,J U<|N rs)],rdX s (rP rs ix<|N rs) (Br T) (C 31 [K0,K1,K2,v] false::X),39⟩:=λX v _ hv=>B8 2 (frC (frO<|flC fvS<|flC (J8 (by rw[hend]))<|flC (Au Bf) flN)<|frC (frO<|flC (Au h0)<|flC (Au h1)<|flC (Au h2)<|flC hv flN) frN)<|fzC rfl (Af (id:=0) (off:=0) V)<|fzC rfl (Af (id:=1) (off:=0) V)<|fI<|fI fzN;subst he;have hfin:Fh 2 ⟨.al [(0,aP 0 0),(1,aP 1 0),(6,J U<|N rs),(7,J U<|N rs)],rdX s (N s) (Br T) [C 31 [K0,K1,K2,aR 8<|rs.map rlV] false],39⟩ (rlS s T ix K0 K1 K2 rs<|N rs):=by unfold rlS;cases rs with|nil=>exact hE [] aN [] O3|cons r q=>have ht:(r::q).take (N q+1)=r::q:=List.take_length (l:=r::q);refine hE [C 62 (rlA<|(r::q).getD 0 rl0) false,C 64 (rlL<|(r::q).getD 0 rl0) false,C 64 (rlC<|(r::q).take<|N q+1) true] (aH 8 4 0 (N<|(r::q).take<|N q+1) none) [] ?_;exact Tn V V Z (by rw[Ta]) (by rw[ht];exact U9 (r::q))<|Ea (r::q)
  refine ExM.fh hfin ?_;refine Wm ?_;refine haE<|kJ ?_;exact pS
def bL (bd:Nat→Bz)(k:Nat):List Bz:=(eD k).map bd
theorem Wn (bd:Nat→Bz)(k:Nat):bL bd (k+1)=bL bd k++[bd k]:=by simp[bL,List.range_succ]
theorem OV (bd:Nat→Bz)(k:Nat):N (bL bd k)=k:=by simp[bL]
theorem KR (bd:Nat→Bz){n:Nat}:∀{m:Nat},n≤m→N (Bj bd n)≤N (Bj bd m)
 |0,h=>by
  obtain rfl:n=0:=by omega
  exact bC _
 |m+1,h=>by
  by_cases e:n=m+1;·rw[e];exact bC _
  ·have:=KR bd (n:=n) (m:=m) Y;rw[Bj,lAp];omega
theorem rec2x (hg:hGr W0 G){s:Bz}{n a e:Nat}{o1 o2:HObj}:Yz gH W0 20 [aP 0 0,aP 1 0,aP 2 0] (pv a e) (hD s n++[o1,o2]) [C 31 [aN,aN,aN,aN] false,C 3 [J U a] false,C 33 [J U e] false,C 75 [S s,J U n,aN] false,o1,o2,C 71 [J U a,J U e] false]:=by
 refine Yz.of2 (ar:=wr23) (t:=6) (t2:=3) (n:=22) Tryz.func20 Z Z Z Z Z (λ_ _=>Z) (λ_ _=>Z) Aq Z Az Z Z Z ?_;refine iO ?_;refine iM hg ?_;refine Ac hg gN Z Z O<|mBk hg gN (c:=true) Z Z Z<|Ba<|?_;refine ExM.condT hg Z ?_;refine iO ?_;refine iM hg ?_;refine Ac hg gN Z Z O<|Ac hg gN Z Z O<|Ac hg gN Z Z O<|Ac hg gN Z Z O<|Ac hg gN Z Z O<|Ac hg gN Z Z O<|Ai hg gN Z<|Ac hg gN Z Z O<|Ba<|?_;refine iO ?_;refine iO ?_;refine iM hg ?_;refine Ac hg gN Z Z O<|mBk hg gN (c:=false) Z Z Z<|Ba<|?_;refine ExM.condF hg Z ?_;refine ExM.skip ?_;refine kH hg ?_;refine Gk Z Z O Aq<|Gk Z Z O Aq<|Gk Z Z O Aq<|Gk Z Z O Aq<|Gk Z Z O Aq<|Ql Z Z (pdC (cY (by show jR _ 32 4=true;rfl)<|evY Z O)<|pdC (cY (by show jR _ 32 3=true;rfl)<|evY Z O)<|pdC (cY (by show jR _ 32 2=true;rfl)<|evY Z O)<|pdC (cY UR<|evY Z O) pdN)<|?_;refine Ql Z Z (pdC (cY (by show jR _ 96 4=true;rfl)<|evY Z O)<|pdC (cY (by show jR _ 96 3=true;rfl)<|evY Z O)<|pdC (cN (by show jR _ 96 2=false;rfl))<|pdC (cN (by show jR _ 96 1=false;rfl)) pdN)<|Ql Z Z (pdC (cN (by show jR _ 224 4=false;rfl))<|pdC (cN (by show jR _ 224 3=false;rfl))<|pdC (cN (by show jR _ 224 2=false;rfl))<|pdC (cN (by show jR _ 224 1=false;rfl)) pdN)<|JF Z<|?_;try dsimp only[Aj.then,Aj.inBlock]
 exact⟨O,Z⟩
def dcS (s:Bz)(bd:Nat→Bz):Nat→St
 |0=>⟨.al [(2,aP 0 0),(3,aP 1 0),(4,aP 2 0),(5,aP 3 0),(6,aN),(22,J U (0:Nat))],hD s 4,68⟩|i+1=>⟨.al [(2,aP 0 0),(3,aP 1 0),(4,aP 2 0),(5,aP 3 0),(6,aH 1 5 0 (N<|bL bd<|i+1) none),(22,J U (i+1:Nat))],(hD s (4+N (Bj bd<|i+1))++[C 9 [S<|bd 0] false,C 9 (Cf<|bL bd<|i+1) true]),68⟩
def tkA :ACode:=(.ops [⟨some 2,none,.alloc 31 [aN,aN,aN,aN]⟩,
 ⟨some 3,none,.alloc 4 [I false]⟩])
def tkB :ACode:=(.seq (.ops [⟨some 8,none,.move (.tmp 0)⟩,
 ⟨some 9,none,.idxSl 1 (.tmp 8)<|.val<|J U 0⟩,
 ⟨some 10,none,.load 1 false<|.tmp 9⟩,
 ⟨some 11,none,.build [S [],J U 0,aN] [(0,1,(.tmp 10))]⟩,
 ⟨some 12,none,.box 75<|.tmp 11⟩,
 ⟨some 4,none,.move (.tmp 12)⟩])
 (.seq (.ops [⟨some 13,none,.move (.tmp 4)⟩,
  ⟨some 14,none,.call (.val (.fn 60 [] [])) [(.tmp 13)]⟩])
 (.seq (.seq (.ops [⟨some 15,none,.bslice 122 1 4 [.nilFn] [(0,1,(.val (.fn 61 [] []))),(1,1,(.val (.fn 62 [] []))),(2,1,(.val (.fn 63 [] []))),(3,1,(.val (.fn 64 [] [])))]⟩,
  ⟨some 16,none,.len false<|.tmp 15⟩,
  ⟨some 17,none,.move (.val (J U 0))⟩])
 (.block 0
  (.loop
   (.seq (.ops [⟨some 18,none,.bin .lss none (.tmp 17) (.tmp 16)⟩])
   (.seq (.cond (.tmp 18)
    .skip
    (.exit 0))
   (.seq (.block 1
    (.seq (.ops [⟨some 19,none,.move (.tmp 17)⟩,
     ⟨some 20,none,.idxSl 1 (.tmp 15)<|.tmp 17⟩,
     ⟨some 21,none,.load 1 false<|.tmp 20⟩,
     ⟨some 5,none,.move<|.tmp 19⟩,
     ⟨some 6,none,.move (.tmp 21)⟩])
    (.drawC [⟨some 22,none,.move (.tmp 6)⟩,
     ⟨some 23,none,.move<|.tmp 0⟩,
     ⟨some 24,none,.move<|.tmp 5⟩,
     ⟨some 25,none,.bin .add none (.tmp 24)<|.val<|J U 1⟩,
     ⟨some 26,none,.idxSl 1 (.tmp 23)<|.tmp 25⟩,
     ⟨some 27,none,.load 1 false<|.tmp 26⟩,
     ⟨some 28,none,.move<|.tmp 4⟩,
     ⟨some 29,none,.nilCheck<|.tmp 28⟩,
     ⟨some 30,none,.fieldAddr 2<|.tmp 29⟩,
     ⟨some 31,none,.load 1 false<|.tmp 30⟩,
     ⟨some 32,none,.build [S [],J U 0,aN] [(0,1,(.tmp 27)),(2,1,(.tmp 31))]⟩,
     ⟨some 33,none,.box 75<|.tmp 32⟩,
     ⟨some 34,none,.call (.tmp 22) [(.tmp 33),(.tmp 2)]⟩] ⟨13,[0,0,0,0,1,1,0,1,1,1,0,2,3],[0,0,0,4,14,30,0,64,192,448,1022,2046,4095],[0,2048,6144]⟩)))
   (.ops [⟨some 35,none,.bin .add none (.tmp 17) (.val (J U 1))⟩,
    ⟨some 17,none,.move (.tmp 35)⟩])))))))
 (.seq (.ops [⟨some 36,none,.load 4 true (.tmp 2)⟩,
  ⟨none,none,.store 4 (.tmp 2)<|.tmp 36⟩,
  ⟨none,none,.store 1 (.tmp 3) (.val (I true))⟩])
 .ret))))
theorem bkAt {f:FuncId}{s:Bz}{a a' j:Nat}{L:AVal}{K K':List AVal}{H:Hz}(hL:blw 0 L=true)(hK:A9 0 K=true)(hK':A9 0 K'=true)(hj:H[j]?=some (C 75 [S s,J U a,L] false))(h0:H[0]?=some (C 31 K false))(hn:j≠0)
 (h:cP W0 f [aP 0 0,aP 1 0] (rdX s a L [C 31 K false]) (aU [])<|rdX s a' L [C 31 K' false]):cP W0 f [aP j 0,aP 0 0] H (aU []) ((H.set j<|C 75 [S s,J U a',L] false).set 0<|C 31 K' false):=by
 have e:∀(ρ:Nat→Nat) (x:Int),Ge ρ (C 75 [S s,J U x,L] false)=C 75 [S s,J U x,L] false:=λρ x=>by show C 75 (Fb _ [S s,J U x,L]) false=_;rw[Bt _<|rdB hL]
 have e2:∀(ρ:Nat→Nat) (K:List AVal),A9 0 K=true→Ge ρ (C 31 K false)=C 31 K false:=λρ K hK=>by show C 31 (Fb _ K) false=_;rw[Bt _ hK]
 have hsel:Sel [j,0] 2 (rdX s a L [C 31 K false]) H (λk=>cond (aA k 0) j 0):=by
  refine⟨by simp[hn],rfl,rfl,λk hk=>?_,λk hk=>?_,λk o ho=>?_⟩;·match k,hk with|0,_=>rfl|1,_=>rfl
  ·simp only[eS,eY,or_false]at hk;rcases hk with rfl|rfl;·exact(aC.1 hj).1
   ·exact(aC.1 h0).1
  ·match k,ho with
   |0,ho=>have ho:some (C 75 [S s,J U a,L] false)=some o:=ho;injection ho with ho;subst ho;rw[e];exact hj
   |1,ho=>have ho:some (C 31 K false)=some o:=ho;injection ho with ho;subst ho;rw[e2 _ _ hK];exact h0
   |k+2,ho=>cases ho
 have h1:=A5.ren (args:=[aP 0 0,aP 1 0]) (H:=H) (H0:=rdX s a L [C 31 K false]) (H0':=rdX s a' L [C 31 K' false]) [j,0] (λk=>cond (aA k 0) j 0) hsel (by
  show cond (A9 2 [S s,J U a,L]) (cond (A9 2 K) true false) false=true
  rw[Dv (iH 2) _ (rdB hL),Dv (iH 2) _ hK];rfl) rfl rfl h
 have h3:Ej [j,0] ((rdX s a' L [C 31 K' false]).map<|Ge λk=>cond (aA k 0) j 0) H=(H.set j<|C 75 [S s,J U a',L] false).set 0 (C 31 K' false):=by show(H.set j<|Ge _ _).set 0 (Ge _ _)=_;rw[e,e2 _ _ hK']
 rw[h3]at h1;exact h1
set_option maxHeartbeats 8000000 in
theorem takenR (hg:hGr W0 G){b0 b1 b2 b3 b4:Bz}{T:List Bz}{Sx Nx B R:List AVal}{d a:Nat}(hS:A9 0 Sx=true)(hN:A9 0 Nx=true)(hB:A9 0 B=true)(hR:A9 0 R=true)
 (c0:cP W0 60 [aP 0 0] (rd b0 0 aN) (aU [])<|rd b0 d<|Br T)
 (c1:cP W0 61 [aP 0 0,aP 1 0] (rdX b1 0 (Br T) [C 31 [aN,aN,aN,aN] false]) (aU [])<|rdX b1 (N b1) (Br T) [C 31 [aR 2 Sx,aN,aN,aN] false])
 (c2:cP W0 62 [aP 0 0,aP 1 0] (rdX b2 0 (Br T) [C 31 [aR 2 Sx,aN,aN,aN] false]) (aU [])<|rdX b2 (N b2) (Br T) [C 31 [aR 2 Sx,aR 3 Nx,aN,aN] false])
 (c3:cP W0 63 [aP 0 0,aP 1 0] (rdX b3 0 (Br T) [C 31 [aR 2 Sx,aR 3 Nx,aN,aN] false]) (aU [])<|rdX b3 (N b3) (Br T) [C 31 [aR 2 Sx,aR 3 Nx,aR 6 B,aN] false])
 (c4:cP W0 64 [aP 0 0,aP 1 0] (rdX b4 0 (Br T) [C 31 [aR 2 Sx,aR 3 Nx,aR 6 B,aN] false]) (aU [])<|rdX b4 a (Br T) [C 31 [aR 2 Sx,aR 3 Nx,aR 6 B,aR 8 R] false]):
 cP W0 23 [aR 1 [S b0,S b1,S b2,S b3,S b4]] [] (aU [aG [aR 2 Sx,aR 3 Nx,aR 6 B,aR 8 R],I true]) []:=by
 have k1:A9 0 [aR 2 Sx,aN,aN,aN]=true:=by show cond (A9 0 Sx) true false=true;rw[hS];rfl
 have k2:A9 0 [aR 2 Sx,aR 3 Nx,aN,aN]=true:=by show cond (A9 0 Sx) (cond (A9 0 Nx) true false) false=true;rw[hS,hN];rfl
 have k3:A9 0 [aR 2 Sx,aR 3 Nx,aR 6 B,aN]=true:=by show cond (A9 0 Sx) (cond (A9 0 Nx) (cond (A9 0 B) true false) false) false=true;rw[hS,hN,hB];rfl
 have k4:A9 0 [aR 2 Sx,aR 3 Nx,aR 6 B,aR 8 R]=true:=by show cond (A9 0 Sx) (cond (A9 0 Nx) (cond (A9 0 B) (cond (A9 0 R) true false) false) false) false=true;rw[hS,hN,hB,hR];rfl
 refine A5.of_idle1 hg (a0:=tkA) (ar:=tkB) (ao:=⟨some 7,none,.mkfn 59 [] [.tmp 2,.tmp 3]⟩) (t:=7) (g:=59) (n:=37) Tryz.func23 Z (by simp[Tryz.f23]) SG (Ef Aq) Aq Aq Aq Z Z Z ⟨_,Z,Z,Z⟩ Az Z Z ?_;unfold tkA;refine Wm ?_;refine⟨Z,?_⟩;refine⟨O,Z,⟨_,Z,Z⟩,?_⟩;unfold tkB;refine Wm ?_;refine mS (v:=aE (S b0) 0) Z ?_ (hs:=by simp only[Ah,and_true,lCo,lNi];decide);refine Wm ?_;refine mC Z (rdAt2 (wr:=.returned) (i:=2) Z Bf Z Z Z c0) ?_;refine Wm ?_;refine mS (v:=aH 1 3 0 4<|some 4) Z ?_;refine Wm ?_;refine ExM.un 4 ?_;refine Wm ?_;refine mS (v:=aP 3 0) Z ?_ (hs:=by simp only[Ah,and_true,lCo,lNi];decide);refine Wm ?_;refine ExM.drawC hg ?_;refine Wc ?_;refine jV (v:=aE (S b1) 0) Z Z ?_ (hs:=by simp only[Ah,and_true,lCo,lNi];decide);refine Wc ?_;refine jE (v:=aP 4 0) Z ?_;refine jC (bkAt (j:=4) Bf Z k1 Z Z V c1) ?_;refine Wc ?_;refine Wm ?_;refine uN ?_;refine Wm ?_;refine mS (v:=aP 3 1) Z ?_ (hs:=by simp only[Ah,and_true,lCo,lNi];decide);refine Wm ?_;refine ExM.drawC hg ?_;refine Wc ?_;refine jV (v:=aE (S b2) 0) Z Z ?_ (hs:=by simp only[Ah,and_true,lCo,lNi];decide);refine Wc ?_;refine jE (v:=aP 5 0) Z ?_;refine jC (bkAt (j:=5) Bf k1 k2 Z Z V c2) ?_;refine Wc ?_;refine Wm ?_;refine uN ?_;refine Wm ?_;refine mS (v:=aP 3 2) Z ?_ (hs:=by simp only[Ah,and_true,lCo,lNi];decide);refine Wm ?_;refine ExM.drawC hg ?_;refine Wc ?_;refine jV (v:=aE (S b3) 0) Z Z ?_ (hs:=by simp only[Ah,and_true,lCo,lNi];decide);refine Wc ?_;refine jE (v:=aP 6 0) Z ?_;refine jC (bkAt (j:=6) Bf k2 k3 Z Z V c3) ?_;refine Wc ?_;refine Wm ?_;refine uN ?_;refine Wm ?_;refine mS (v:=aP 3 3) Z ?_ (hs:=by simp only[Ah,and_true,lCo,lNi];decide);refine Wm ?_;refine ExM.drawC hg ?_;refine Wc ?_;refine jV (v:=aE (S b4) 0) Z Z ?_ (hs:=by simp only[Ah,and_true,lCo,lNi];decide);refine Wc ?_;refine jE (v:=aP 7 0) Z ?_;refine jC (bkAt (j:=7) Bf k3 k4 Z Z V c4) ?_;refine Wc ?_;refine Wm ?_;refine uN ?_;refine Wm ?_;refine uE<|kJ ?_ (hj:=by with_unfolding_all rfl);refine Wm ?_;exact⟨O,_,Z,.inr ⟨Z,(Lp (aU [aG [aR 2 Sx,aR 3 Nx,aR 6 B,aR 8 R],I true]) (by show cond (A9 0 [aR 2 Sx,aR 3 Nx,aR 6 B,aR 8 R]) true false=true;rw[k4];rfl)).imp λk hk=>hk k<|Nat.le_refl _,Z⟩⟩
theorem secD (hg:hGr W0 G){bd:Nat→Bz}{s:Bz}{i:Nat}(hi:i<5)(h:Seg s (4+N (Bj bd i))<|Rn i<|bd i)(hl:N s≤1000000)(X:Hz):cP W0 22 [aP 3 0,J U (i+1:Nat)] (hD s (4+N (Bj bd i))++X) (S<|bd i) (hD s (4+N (Bj bd<|i+1))++X):=by have h1:=secS (W0:=W0) (L:=aN) hg Z hi h hl;have e:=F4 (bd:=bd) i;rw[show 4+N (Bj bd i)+9+N (bd i)=4+N (Bj bd<|i+1)by omega]at h1;exact NG (wr:=.returned) (H:=hD s (4+N (Bj bd i))++X) (i:=3) Z Z Z Z h1
theorem needD (hg:hGr W0 G){s:Bz}(h:Seg s 0 D4)(hl:N s≤1000000):cP W0 21 [aP 3 0,S D4] (hD s 0) (aU []) (hD s 4):=NG (wr:=.returned) (H:=hD s 0) (i:=3) (L:=aN) rfl rfl rfl rfl<|RH hg rfl h hl V
theorem decP (hg:hGr W0 G){bd:Nat→Bz}{n p e a':Nat}{s:Bz}(hn:n<5)(hl:N s≤200000)(hm:Seg s 0 D4)(hsec:∀i,i<n→Seg s (4+N (Bj bd i)) (Rn i<|bd i))
 (hc:F6 gH W0 22 [aP 0 0,J U (n+1:Nat)] (rd s (4+N (Bj bd n)) aN) (pv p e)<|rd s a' aN):cP W0 8 [S s] [] (aU [bkZ,J U p,J U e]) []:=by
 have hl6:N s≤1000000:=Y;have hm:=needD (W0:=W0) hg hm hl6;have hsi:=λi hi=>secD (W0:=W0) hg (show i<5 by omega) (hsec i hi) hl6;have hpn:∀X,F6 gH W0 22 [aP 3 0,J U (n+1:Nat)] (hD s (4+N (Bj bd n))++X) (pv p e) (hD s a'++X):=λX=>NG (wr:=λv=>.panicked<|pch v) (H:=hD s (4+N (Bj bd n))++X) (i:=3) (L:=aN) Z Z Z Z hc;generalize hD0:4+N (Bj bd n)=a at hpn hc;refine nK hg (v:=pv p e) (a0:=wa0) (a1:=wa1) (ar:=war) (ao:=⟨some 16,none,.mkfn 20 [] [.tmp 2,.tmp 3,.tmp 4]⟩) (t:=16) (g:=20) (n:=68) nF Z (by simp[nJ]) (Ef Aq) Aq Aq Aq Aq Z Z Z ⟨_,Z,Z,Z⟩ Az Z Z ?_;unfold wa0;refine Wm ?_;refine⟨Z,?_⟩;unfold wa1;refine Wm ?_;refine⟨Z,?_⟩;refine⟨O,Z,⟨_,Z,?_⟩⟩;unfold war;refine mL ?_;refine Wm ?_;refine⟨Z,?_⟩;refine mL ?_;refine Wm ?_;refine⟨Z,?_⟩;refine mL ?_;refine Wm ?_;refine⟨Z,?_⟩;refine mM ?_;refine mL ?_;refine Wm ?_;refine⟨Z,?_⟩;refine mU ?_;refine ExP.lpN (dcS s bd) n (B8 4 (frC (frS Z)<|frC (frS Z)<|frC (frS Z)<|frC (frS Z) frN) (fzC Z (Af (id:=0) (off:=0) V)<|fzC Z (Af (id:=1) (off:=0) V)<|fzC Z (Af (id:=2) (off:=0) V)<|fzC Z (Af (id:=3) (off:=0) V)<|fzC Z Am<|fI fzN) (hm:=by show 3≤4;decide)) (λi hi=>?_) ?_;·have h0:=hsi i hi;clear hsi hpn;cases i with|zero=>have h0:=h0 [];rw[lP,lP]at h0;unfold dcS;refine Wm ?_;refine mS (v:=aH 1 4 0 1<|some 1) Z ?_;refine mS (v:=aH 1 5 0 1 none) Z ?_ (hs:=by simp only[Ah,and_true,By];decide);refine Wm ?_;exact⟨Z,B8 6 (frC (frS Z)<|frC (frS Z)<|frC (frS Z)<|frC (frS Z)<|frC (frS Z)<|frC (frS Z) frN) (fzC Z (Af (id:=0) (off:=0) V)<|fzC Z (Af (id:=1) (off:=0) V)<|fzC Z (Af (id:=2) (off:=0) V)<|fzC Z (Af (id:=3) (off:=0) V)<|fzC Z (D2 V)<|fI fzN) (hm:=by show 3≤6;decide)⟩|succ i=>unfold dcS;refine Wm ?_;refine mS (v:=aH 1 6 0 1<|some 1) Z ?_;refine mS (Qi (p:=[bd<|i+1]) Z Z Z Z Z Z) ?_ (hs:=by simp only[Ah,and_true,By,lCo,lNi,OV];omega);refine Wm ?_;exact⟨Z,B8 6 (frC (frS Z)<|frC (frS Z)<|frC (frS Z)<|frC (frS Z)<|frC (frS Z)<|frC (by rw[Wn bd<|i+1];exact frS<|Cd _) frN) (fzC Z (Af (id:=0) (off:=0) V)<|fzC Z (Af (id:=1) (off:=0) V)<|fzC Z (Af (id:=2) (off:=0) V)<|fzC Z (Af (id:=3) (off:=0) V)<|fzC Z (by rw[Wn bd<|i+1];exact D2 V)<|fI fzN) (hm:=by show 3≤6;decide)⟩
 ·cases n with|zero=>have ha:a=4:=hD0.symm;subst ha;unfold dcS;refine mL ?_;refine Wm ?_;refine⟨Z,?_⟩;refine mL ?_;refine Wm ?_;refine⟨Z,?_⟩;refine mM ?_;refine mU ?_;refine mL ?_;refine Wm ?_;refine⟨Z,?_⟩;refine mR hg ?_;refine Dy hg gN Z Z O<|Dy hg gN Z Z O<|Dy hg gN Z Z O<|Dy hg gN (u:=J U (0+1:Nat)) (by show some (ARes.val (J U<|U.wrap<|((0:Nat):Int)+1) _ _)=_;rw[w64 Y Y];rfl) Z bY194<|O6 hg Z (by have:=hpn [];rw[lP,lP]at this;exact this) ⟨_,LO hg,_,Z,?_⟩;rfl|succ i=>subst hD0;unfold dcS;refine mL ?_;refine Wm ?_;refine⟨Z,?_⟩;refine mL ?_;refine Wm ?_;refine⟨Z,?_⟩;refine mM ?_;refine mU ?_;refine mL ?_;refine Wm ?_;refine⟨Z,?_⟩;refine mR hg ?_;refine Dy hg gN Z Z O<|Dy hg gN Z Z O<|Dy hg gN Z Z O<|Dy hg gN (u:=J U ((i+1)+1:Nat)) (by show some (ARes.val (J U<|U.wrap<|(((i+1):Nat):Int)+1) _ _)=_;rw[w64 Y Y];rfl) Z bY194<|O6 hg Z (hpn _) ⟨_,rec2x hg,_,Z,?_⟩;rfl
def wre :ACode:=(.seq (.seq (.ops [⟨(some 33),none,(.move<|.tmp 5)⟩,⟨(some 34),none,(.nilCheck<|.tmp 33)⟩,⟨(some 35),none,(.fieldAddr 1<|.tmp 34)⟩,⟨(some 36),none,(.load 1 false<|.tmp 35)⟩,⟨(some 37),none,(.move<|.tmp 0)⟩,⟨(some 38),none,(.len true<|.tmp 37)⟩,⟨(some 39),none,(.bin .lss none (.tmp 36)<|.tmp 38)⟩])<|.cond (.tmp 39) (.seq (.drawC [⟨(some 40),none,(.build [aN,aN,aN,aN] [])⟩,⟨(some 41),none,(.move<|.tmp 5)⟩,⟨(some 42),none,(.nilCheck<|.tmp 41)⟩,⟨(some 43),none,(.fieldAddr 1<|.tmp 42)⟩,⟨(some 44),none,(.load 1 false<|.tmp 43)⟩,⟨none,none,(.store 4 (.tmp 2)<|.tmp 40)⟩,⟨none,none,(.store 1 (.tmp 3)<|.tmp 44)⟩,⟨none,none,(.store 1 (.tmp 4)<|.val<|J U 250)⟩] ⟨8,[0,0,1,1,1,2,2,2],[0,0,2,6,14,1,63,127],[0,32,96,224]⟩) .ret) .skip)<|.seq (.ops [⟨(some 46),none,(.move<|.tmp 6)⟩,⟨(some 47),none,(.call (.val<|.fn 23 [] []) [(.tmp 46)])⟩,⟨(some 45),none,(.move<|.tmp 47)⟩,⟨(some 48),none,(.extract (.tmp 45) 0)⟩,⟨(some 49),none,(.extract (.tmp 45) 1)⟩,⟨(some 8),none,(.alloc 31 [aN,aN,aN,aN])⟩,⟨none,none,(.store 4 (.tmp 8)<|.tmp 48)⟩,⟨(some 9),none,(.move<|.tmp 49)⟩])<|.seq (.seq (.ops [⟨(some 51),none,(.load 4 true<|.tmp 8)⟩,⟨(some 52),none,(.call (.val<|.fn 7 [] []) [(.tmp 51)])⟩,⟨(some 50),none,(.move<|.tmp 52)⟩,⟨(some 53),none,(.extract (.tmp 50) 0)⟩,⟨(some 54),none,(.extract (.tmp 50) 1)⟩,⟨(some 10),none,(.move<|.tmp 53)⟩,⟨(some 11),none,(.move<|.tmp 54)⟩])<|.seq (.ops [⟨(some 55),none,(.move<|.tmp 9)⟩,⟨(some 56),none,(.un .not<|.tmp 55)⟩,⟨(some 57),none,(.move<|.tmp 56)⟩,⟨(some 58),(some (57,false)),(.move<|.tmp 11)⟩,⟨(some 59),(some (57,false)),(.bin .neq none (.tmp 58)<|.val<|J U 0)⟩,⟨(some 60),none,(.pick (.tmp 57) (.val<|I true)<|.tmp 59)⟩,⟨(some 61),none,(.move<|.tmp 60)⟩,⟨(some 62),(some (61,false)),(.move<|.tmp 10)⟩,⟨(some 63),(some (61,false)),(.move<|.tmp 0)⟩,⟨(some 64),(some (61,false)),(.bin .neq none (.tmp 62)<|.tmp 63)⟩,⟨(some 65),none,(.pick (.tmp 61) (.val<|I true)<|.tmp 64)⟩])<|.cond (.tmp 65) (.seq (.ops [⟨(some 66),none,(.build [aN,aN,aN,aN] [])⟩,⟨none,none,(.store 4 (.tmp 2)<|.tmp 66)⟩,⟨none,none,(.store 1 (.tmp 3)<|.val<|J U 0)⟩,⟨none,none,(.store 1 (.tmp 4)<|.val<|J U 250)⟩]) .ret) .skip)<|.seq (.ops [⟨(some 67),none,(.load 4 true<|.tmp 8)⟩,⟨none,none,(.store 4 (.tmp 2)<|.tmp 67)⟩,⟨none,none,(.store 1 (.tmp 3)<|.val<|J U 0)⟩,⟨none,none,(.store 1 (.tmp 4)<|.val<|J U 0)⟩]) .ret)
def dcT (s:Bz)(bd:Nat→Bz):Nat→St
 |0=>⟨.al [(0,S s),(2,aP 0 0),(3,aP 1 0),(4,aP 2 0),(5,aP 3 0),(6,aN),(22,J U (0:Nat))],hD s 4,68⟩|i+1=>⟨.al [(0,S s),(2,aP 0 0),(3,aP 1 0),(4,aP 2 0),(5,aP 3 0),(6,aH 1 5 0 (N<|bL bd<|i+1) none),(22,J U (i+1:Nat))],(hD s (4+N (Bj bd<|i+1))++[C 9 [S<|bd 0] false,C 9 (Cf<|bL bd<|i+1) true]),68⟩
theorem TL (hg:hGr W0 G){bd:Nat→Bz}{s:Bz}{v:AVal}(hl:N s≤200000)(hm:Seg s 0 D4)(hsec:∀i,i<5→Seg s (4+N (Bj bd i)) (Rn i<|bd i))
 (hK:ExM gH W0 0 wre ⟨.al [(0,S s),(2,aP 0 0),(3,aP 1 0),(4,aP 2 0),(5,aP 3 0),(6,aR 1<|(bL bd 5).map S)],hD s<|4+N (Bj bd 5),68⟩ λe s3=>(match e with|.exit _=>False|_=>True)∧∃vs,Di gH s3 nJ.results.toList=some vs∧((Cc vs=v∧s3.H=[])∨(B5 0 (s3.H.take 0)=true∧(∃m,frz s3.H 0 m (Cc vs)=some v)∧s3.H.take 0=[]))):cP W0 8 [S s] [] v []:=by
 have hl6:N s≤1000000:=Y;have hm:=needD (W0:=W0) hg hm hl6;have hsi:=λi hi=>secD (W0:=W0) hg hi (hsec i hi) hl6;refine A5.of_idle2 hg (a0:=wa0) (a1:=wa1) (ar:=war) (ao:=⟨some 16,none,.mkfn 20 [] [.tmp 2,.tmp 3,.tmp 4]⟩) (t:=16) (g:=20) (n:=68) nF Z (by simp[nJ]) UE (Ef Aq) Aq Aq Aq Aq Z Z Z ⟨_,Z,Z,Z⟩ Az Z Z ?_;unfold wa0;refine Wm ?_;refine⟨Z,?_⟩;unfold wa1;refine Wm ?_;refine⟨Z,?_⟩;refine⟨O,Z,⟨_,Z,Z⟩,?_⟩;unfold war;refine Wm ?_;refine ExM.lpH (σ:=Nat) (τ:=Unit) (dcT s bd) (λi=>i≤5) (λi=>5-i) 0 (λ_=>⟨.al [(0,S s),(2,aP 0 0),(3,aP 1 0),(4,aP 2 0),(5,aP 3 0),(6,aR 1<|(bL bd 5).map S)],hD s<|4+N (Bj bd 5),68⟩) (λ_=>True) (B8 4 (frC (frS Z)<|frC (frS Z)<|frC (frS Z)<|frC (frS Z) frN)<|fS<|fzC Z (Af (id:=0) (off:=0) V)<|fzC Z (Af (id:=1) (off:=0) V)<|fzC Z (Af (id:=2) (off:=0) V)<|fzC Z (Af (id:=3) (off:=0) V)<|fzC Z Am<|fI fzN) (iH _) (λi hi=>?_)<|λ_ _=>hK;have hi:i≤5:=hi;by_cases hlt:i<5;·have h0:=hsi i hlt;clear hsi;cases i with|zero=>have h0:=h0 [];rw[lP,lP]at h0;unfold dcT;refine Wm ?_;refine mS (v:=aH 1 4 0 1<|some 1) Z ?_;refine mS (v:=aH 1 5 0 1 none) Z ?_ (hs:=by simp only[Ah,and_true,By];decide);refine Wm ?_;exact hoN 1 hlt Y (B8 6 (frC (frS Z)<|frC (frS Z)<|frC (frS Z)<|frC (frS Z)<|frC (frS Z)<|frC (frS Z) frN)<|fS<|fzC Z (Af (id:=0) (off:=0) V)<|fzC Z (Af (id:=1) (off:=0) V)<|fzC Z (Af (id:=2) (off:=0) V)<|fzC Z (Af (id:=3) (off:=0) V)<|fzC Z (D2 V)<|fI fzN)|succ i=>unfold dcT;refine Wm ?_;refine mS (v:=aH 1 6 0 1<|some 1) Z ?_;refine mS (Qi (p:=[bd<|i+1]) Z Z Z Z Z Z) ?_ (hs:=by simp only[Ah,and_true,By,lCo,lNi,OV];omega);refine Wm ?_;exact hoN (i+2) hlt Y<|B8 6 (frC (frS Z)<|frC (frS Z)<|frC (frS Z)<|frC (frS Z)<|frC (frS Z)<|frC (by rw[Wn bd<|i+1];exact frS<|Cd _) frN)<|fS<|fzC Z (Af (id:=0) (off:=0) V)<|fzC Z (Af (id:=1) (off:=0) V)<|fzC Z (Af (id:=2) (off:=0) V)<|fzC Z (Af (id:=3) (off:=0) V)<|fzC Z (by rw[Wn bd<|i+1];exact D2 V)<|fI fzN
 ·have he:i=5:=by omega
  subst he;unfold dcT;refine Wm ?_;exact hoE () O<|B8 4 (frC (frS Z)<|frC (frS Z)<|frC (frS Z)<|frC (frS Z) frN)<|fS<|fzC Z (Af (id:=0) (off:=0) V)<|fzC Z (Af (id:=1) (off:=0) V)<|fzC Z (Af (id:=2) (off:=0) V)<|fzC Z (Af (id:=3) (off:=0) V)<|fzC Z (Tn V V Z LG (by have:=Lh (bL bd 5) [];rw[lP]at this;exact this)<|Cd _) fzN
theorem BC {bd:Nat→Bz}{s r:Bz}(hs:s=D4++Bj bd 5++r){i:Nat}(hi:i<5):Seg s (4+N (Bj bd i)) (Rn i<|bd i):=by obtain⟨q,hq⟩:=KJ bd hi;exact⟨D4++Bj bd i,q++r,by rw[hs,hq];simp only[Rn,cE],bY210⟩
theorem decN (hg:hGr W0 G){bd:Nat→Bz}{s r:Bz}(hs:s=D4++Bj bd 5++r)(hr:r≠[])(hl:N s≤200000):cP W0 8 [S s] [] (aU [bkZ,J U (4+N (Bj bd 5):Nat),J U 250]) []:=by
 have h1:N s=4+N (Bj bd 5)+N r:=by rw[hs,lAp,lAp];rfl
 have h2:0<N r:=nC.2 hr;refine TL hg hl ⟨[],Bj bd 5++r,by rw[hs,cE];rfl,rfl⟩ (λi hi=>BC hs hi) ?_;unfold wre;refine Wm ?_;refine kH hg ?_;refine Wc ?_;refine Wm ?_;exact⟨O,_,Z,.inr ⟨Z,⟨100,Z⟩,Z⟩⟩
theorem decF (hg:hGr W0 G){bd:Nat→Bz}{s:Bz}{l0 l1 l2 l3:List AVal}(hs:s=D4++Bj bd 5)(hl:N s≤200000)(hb:A9 0 [aR 2 l0,aR 3 l1,aR 6 l2,aR 8 l3]=true)
 (ht:cP W0 23 [aR 1<|(bL bd 5).map S] [] (aU [aG [aR 2 l0,aR 3 l1,aR 6 l2,aR 8 l3],I true]) []) (he:cP W0 7 [aG [aR 2 l0,aR 3 l1,aR 6 l2,aR 8 l3]] [] (aU [S s,J U 0]) []):cP W0 8 [S s] [] (aU [aG [aR 2 l0,aR 3 l1,aR 6 l2,aR 8 l3],J U 0,J U 0]) []:=by
 have h1:N s=4+N (Bj bd 5):=by rw[hs,lAp];rfl
 have hv:blw 0 (aG [aR 2 l0,aR 3 l1,aR 6 l2,aR 8 l3])=true:=hb;have hba:∀r,A9 0 r=true→A9 0 (aG [aR 2 l0,aR 3 l1,aR 6 l2,aR 8 l3]::r)=true:=λr hr=>by show cond (blw 0<|aG [aR 2 l0,aR 3 l1,aR 6 l2,aR 8 l3]) (A9 0 r) false=true;rw[hv,hr];rfl
 have hs':s=D4++Bj bd 5++[]:=by rw[lP];exact hs
 have ht:=λH=>gW (W0:=W0) (P:=gH) (by show cond (A9 0<|Cf<|bL bd 5) true false=true;rw[Cd];rfl) (show blw 0 (aU _)=true from hba [I true] Z) ht H;have he:=λH=>gW (W0:=W0) (P:=gH) (hba [] Z) Z he H;refine TL hg hl ⟨[],Bj bd 5,hs,Z⟩ (λi hi=>BC hs' hi) ?_;unfold wre;refine Wm ?_;refine mF Z ?_ (hb:=by simp);refine Wm ?_;exact⟨O,_,Z,.inr ⟨Z,(Lp (aU [aG [aR 2 l0,aR 3 l1,aR 6 l2,aR 8 l3],J U 0,J U 0])<|hba [J U 0,J U 0] Z).imp λk hk=>hk k<|bC _,Z⟩⟩
theorem decM (hg:hGr W0 G){s:Bz}{i:Nat}(hi:i<4)(hs:Seg s 0<|D4.take i)(hsl:N s=i):cP W0 8 [S s] [] (aU [bkZ,J U<|N s,J U 252]) []:=by have hc:F6 gH W0 21 [aP 3 0,S D4] (hD s 0) (pv (N s) 252) (hD s<|0+i):=NG (wr:=λv=>.panicked<|pch v) (H:=hD s 0) (i:=3) (L:=aN) Z Z Z Z<|needX hg Z (q:=D4) hs hi Y Y V;refine nK hg (v:=pv (N s) 252) (a0:=wa0) (a1:=wa1) (ar:=war) (ao:=⟨some 16,none,.mkfn 20 [] [.tmp 2,.tmp 3,.tmp 4]⟩) (t:=16) (g:=20) (n:=68) nF Z (by simp[nJ]) (Ef Aq) Aq Aq Aq Aq Z Z Z ⟨_,Z,Z,Z⟩ Az Z Z ?_;unfold wa0;refine Wm ?_;refine⟨Z,?_⟩;unfold wa1;refine Wm ?_;refine⟨Z,?_⟩;refine⟨O,Z,⟨_,Z,?_⟩⟩;unfold war;refine mL ?_;refine Wm ?_;refine⟨Z,?_⟩;refine mM ?_;refine mR hg ?_;exact Dy hg gN Z Z O<|O6 hg Z hc ⟨_,LO hg,_,Z,Z⟩
theorem decK (hg:hGr W0 G){bd:Nat→Bz}{s t:Bz}{k:Nat}(ht:t=D4++Bj bd 5)(hl:N t≤200000)(hk:k<N t)(hs:s=t.take k):cP W0 8 [S s] [] (aU [bkZ,J U k,J U 252]) []:=by
 have hsl:N s=k:=by rw[hs,lW];omega
 by_cases h4:k<4;·have h:=decM (W0:=W0) hg (s:=s) h4 ⟨[],[],by rw[hs,ht,nB (by show k≤4;omega),lP];rfl,rfl⟩ hsl;rw[hsl]at h;exact h
 obtain⟨n,hn,h1,h2⟩:∃n,n<5∧4+N (Bj bd n)≤k∧k<4+N (Bj bd<|n+1):=by
  have hlen:N t=4+N (Bj bd 5):=by rw[ht,lAp];rfl
  have z:N (Bj bd 0)=0:=rfl;rcases nH k (4+N (Bj bd 1))with h|h;·exact⟨0,V,Y,h⟩
  rcases nH k (4+N (Bj bd 2))with h|h;·exact⟨1,V,Y,h⟩
  rcases nH k (4+N (Bj bd 3))with h|h;·exact⟨2,V,Y,h⟩
  rcases nH k (4+N (Bj bd 4))with h|h;·exact⟨3,V,Y,h⟩
  exact⟨4,V,Y,by show k<4+N (Bj bd 5);omega⟩
 have hsec:∀i,i<5→Seg t (4+N (Bj bd i)) (Rn i<|bd i):=λi hi=>BC (r:=[]) (by rw[lP];exact ht) hi;have hpre:∀{q:Bz}{a:Nat},Seg t a q→a+N q≤k→Seg s a q:=λ{q a} h hle=>by obtain⟨A,R,e,rfl⟩:=h;refine⟨A,R.take<|k-N A-N q,?_,Z⟩;rw[hs,e,mN,bU Y,mN,bU Y]
 have hcut:∀{q:Bz}{a:Nat},Seg t a q→a≤k→k≤a+N q→Seg s a (q.take<|k-a):=λ{q a} h hle hle2=>by obtain⟨A,R,e,rfl⟩:=h;refine⟨A,[],?_,Z⟩;rw[hs,e,mN,bU Y,nB Y,lP]
 have e:=F4 (bd:=bd) n;have hbl:N (Rn n<|bd n)=9+N (bd n):=Rq;have hbl2:N (Ad 1 (n+1)++(Ad 4 (N<|bd n)++(bd n++Ad 4 (Lo<|bd n))))=9+N (bd n):=hbl;obtain⟨a',hc⟩:=secX (W0:=W0) (L:=aN) hg rfl hn (k:=k-(4+N (Bj bd n))) (b:=bd n) (a:=4+N (Bj bd n)) (hcut (hsec n hn) h1 Y) Y Y Y (by have:=(hsec n hn).len;omega)
 have h:=decP (W0:=W0) hg hn Y (hpre (q:=D4) (a:=0) ⟨[],Bj bd 5,ht,Z⟩ (by show 0+4≤k;omega)) (λi hi=>hpre (hsec i Y) (by
  have e1:=F4 (bd:=bd) i;have e2:N (Rn i<|bd i)=9+N (bd i):=Rq;have e3:=KR bd (n:=i+1) (m:=n) Y
  omega)) hc
 rw[hsl]at h;exact h
end Go.Abs
namespace Go.Abs
open Go.Proofs Go.RowKit
set_option maxRecDepth 100000
section
variable {T : List Bz} {ix : Bz → Nat}
def ShP (T:List Bz)(ix:Bz→Nat)(x:PSh):Prop:=InT T ix x.nm∧N x.cs<65536∧∀c∈x.cs,InT T ix c.s∧c.r<256∧c.c<256
def RlP (T:List Bz)(ix:Bz→Nat)(r:PRl):Prop:=InT T ix r.f∧(0≤r.a∧r.a<256)∧(0≤r.b∧r.b<256)∧(0≤r.c∧r.c<256)∧(0≤r.d∧r.d<256)∧(0≤r.e∧r.e<256)∧(0≤r.g∧r.g<256)
end
end Go.Abs
namespace Go.Abs
open Go.Proofs Go.RowKit
set_option maxRecDepth 100000
variable {W0 : World} {G : List (Nat × AVal)}
structure BkP (shs:List PSh)(ns:List PNm)(tb:Bool)(rs:List PRl):Prop where
 sl:N shs≤3
 cl:∀x∈shs,N x.cs≤30
 rl:N rs≤4
 tl:N (Dj<|Df shs ns tb rs)≤60
 tq:∀q∈Dj (Df shs ns tb rs),N q≤200
 sh:∀x∈shs,ShP (Dj<|Df shs ns tb rs) (ixN<|Dj<|Df shs ns tb rs) x
 rr:∀r∈rs,RlP (Dj<|Df shs ns tb rs) (ixN<|Dj<|Df shs ns tb rs) r
 bl:∀i,i<5→N (bdG shs ns tb rs i)≤20000
theorem encD (hk:Kn W0){b:RB}{v:AVal}(h:JL W0 b v):∃shs rs,v=wbV shs (nlN b.nm) (tlT b.tb) rs∧BkP shs (Ua b.nm) b.tb rs∧(∀i,i<5→bdG shs (Ua b.nm) b.tb rs i≠[])∧N (V2<|bdG shs (Ua b.nm) b.tb rs)≤200000∧cP W0 7 [v] [] (aU [S<|V2<|bdG shs (Ua b.nm) b.tb rs,J U 0]) []∧cP W0 8 [S<|V2<|bdG shs (Ua b.nm) b.tb rs] [] (aU [v,J U 0,J U 0]) []:=by
 have hg:=grK hk;have hck:=checkB hk h;obtain⟨n,shs,rs,hn,rfl,hS,h4,hR⟩:=h;have hln:=hS.len;have hmn:=hS.many;have hcl:=hS.ok;refine⟨shs,rs,Z,?_⟩;rw[wbV,nlN_map]at hck⊢;generalize htb:b.tb=tb at hck;generalize hnb:Ua b.nm=ns at hck;have hT:∀s∈Df shs ns tb rs,s≠[]∧N s≤200:=λs hs=>by rw[←hnb]at hs;exact txOK hS hn.2 hR hs
 have hns:N ns≤2∧∀i,i<N ns→∃s:Nat,(ns.getD i pn0).a+1=s∧s<1000:=by
  subst hnb;cases b.nm with
  |false=>exact⟨V,λi hi=>by cases hi⟩
  |true=>exact⟨V,λi hi=>by
   have:i=0∨i=1:=by have:i<2:=hi;omega
   rcases this with rfl|rfl;·exact⟨0,Z,V⟩
   ·exact⟨1,Z,V⟩⟩
 have hna:∀p∈ns,-1≤p.a∧p.a<255:=by
  subst hnb;cases b.nm with
  |false=>intro p hp;cases hp
  |true=>intro p hp;simp only[Ua,cond_true,eS,eY,or_false]at hp;rcases hp with rfl|rfl<;>exact⟨V,V⟩
 have hL:N (Df shs ns tb rs)≤60:=by
  have a1:=TG shs;have a2:N (ns.flatMap nmT)=N ns*2:=by
   have:∀l:List PNm,N (l.flatMap nmT)=N l*2:=λl=>by induction l with|nil=>rfl|cons x r ih=>simp only[lA,lAp,nmT,lCo,lNi]at ih⊢;omega
   exact this ns
  have a3:N (K9 tb)≤3:=by cases tb<;>decide
  have a4:N (rs.flatMap rlT)=N rs:=by
   have:∀l:List PRl,N (l.flatMap rlT)=N l:=λl=>by induction l with|nil=>rfl|cons x r ih=>simp only[lA,lAp,rlT,lCo,lNi]at ih⊢;omega
   exact this rs
  rw[Df,lAp,lAp,lAp];omega
 have hTl:=QY<|Df shs ns tb rs;have hne:∀i,i<N (Dj<|Df shs ns tb rs)→(Dj<|Df shs ns tb rs).getD i []≠[]:=λi hi=>(hT _<|Px<|Cb hi).1;have hix:∀q,ixN (Dj<|Df shs ns tb rs) q<9223372036854775808:=λq=>by rcases(R0 (ss:=Dj<|Df shs ns tb rs) q).2 with h|h<;>omega
 have hbk:∀n,A9 n (bkT shs ns tb rs)=true:=λn=>by
  have h1:A9 n (tlT tb)=true:=by cases tb<;>rfl
  simp only[A9,blw,B6,Ed,Ea,h1,cond_true]
 have l0:N (bdG shs ns tb rs 0)≤20000:=by have:=RZ (T:=Dj<|Df shs ns tb rs) λs hs=>(hT s<|Px hs).2;show N (Ld _)≤_;omega
 have l1:N (bdG shs ns tb rs 1)≤20000:=by show N (Gt _ shs)≤_;rw[EW];omega
 have l2:N (bdG shs ns tb rs 2)≤20000:=by show N (AP _ _ ns)≤_;rw[AP,lAp,lAp,lAp,Ak,Ee Wg,Ee W6,Ee BL];omega
 have l3:N (bdG shs ns tb rs 3)≤20000:=by
  show N (NF _ tb)≤_;cases tb;·show N (Ad 1 0++[])≤_;decide
  ·show N (Ad 1 1++_)≤_;simp only[lAp,cond_true,Ak,Lj,Ih,lCo,lNi];omega
 have l4:N (bdG shs ns tb rs 4)≤20000:=by show N (FV _ _ rs)≤_;rw[FV,lAp,Ak,Ee CS];omega
 have hne5:∀i,i<5→bdG shs ns tb rs i≠[]:=λi hi=>by
  have:i=0∨i=1∨i=2∨i=3∨i=4:=Y;rcases this with rfl|rfl|rfl|rfl|rfl;·simp[bdG,Ld,Ad]
  ·simp[bdG,Gt,Ad]
  ·simp[bdG,AP,Ad]
  ·simp[bdG,NF,Ad]
  ·simp[bdG,FV,Ad]
 have hsz:∀i,i<5→N (D4++Bj (bdG shs ns tb rs) (i+1))≤200000:=λi hi=>by have z:N (Bj (bdG shs ns tb rs) 0)=0:=rfl;have s0:N (Bj (bdG shs ns tb rs) 1)=_:=F4 0;have s1:N (Bj (bdG shs ns tb rs) 2)=_:=F4 1;have s2:N (Bj (bdG shs ns tb rs) 3)=_:=F4 2;have s3:N (Bj (bdG shs ns tb rs) 4)=_:=F4 3;have s4:N (Bj (bdG shs ns tb rs) 5)=_:=F4 4;have hm:N D4=4:=rfl;rw[lAp];have:i=0∨i=1∨i=2∨i=3∨i=4:=Y;rcases this with rfl|rfl|rfl|rfl|rfl<;>simp only[Nat.reduceAdd]<;>omega
 have hf:cP W0 19 [aG<|bkT shs ns tb rs] [] (S<|V2<|bdG shs ns tb rs) []:=by
  refine fileG hg hbk Y (textsG hg Y Y) (λi hi=>bI (hsz i hi) V)<|λi hi=>?_;have:i=0∨i=1∨i=2∨i=3∨i=4:=Y;rcases this with rfl|rfl|rfl|rfl|rfl;·exact⟨48,[aP 1 0],_,_,Z,hne5 0 V,λol=>liftD hbk (λn=>by show cond (A9 n<|Cf _) true false=true;rw[Cd];rfl)<|dictF hg hbk hne<|bI l0 V⟩
  ·exact⟨50,[],_,_,Z,hne5 1 V,λol=>LJ hbk<|sheetsP hg (λn=>by have:=hbk n;simp only[A9,blw,B6,cond_true]at this⊢;exact this) (λi hi=>(R0 _).1) (λi hi j hj=>⟨(R0 _).1,by have:=hcl.ok _ (Cb (d:=ps0) hi) _<|Cb (d:=pc0) hj;have:=this.1;omega,by have:=hcl.ok _ (Cb (d:=ps0) hi) _<|Cb (d:=pc0) hj;have:=this.2.1;omega⟩) hix<|bI l1 V⟩
  ·exact⟨51,[],_,_,Z,hne5 2 V,λol=>LJ hbk<|namedW hg hbk Y (λi hi=>⟨hns.2 i hi,(R0 _).1,(R0 _).1⟩) hix⟩
  ·exact⟨52,[],_,_,Z,hne5 3 V,λol=>LJ hbk<|tablesW hg tb hbk (λs _=>(R0 _).1) hix⟩
  ·exact⟨53,[],_,_,Z,hne5 4 V,λol=>LJ hbk (rulesW hg hbk Y (λi hi=>⟨by
   have hr:=hR _<|Cb (d:=rl0) hi;generalize rs.getD i rl0=r at hr;obtain⟨⟨a1,a2⟩,⟨b1,b2⟩,⟨c1,c2⟩,⟨d1,d2⟩,⟨e1,e2⟩,_,g⟩:=hr;have g1:0≤r.g∧r.g<1000:=Y
   exact⟨r.a.toNat,r.b.toNat,r.c.toNat,r.d.toNat,r.e.toNat,r.g.toNat,Y,Y,Y,Y,Y,Y,Y,Y,Y,Y,Y,Y⟩,(R0 _).1⟩) hix)⟩
 have hA:A9 0 [aG<|bkT shs ns tb rs]=true:=by show cond (A9 0<|bkT shs ns tb rs) true false=true;rw[hbk];rfl
 have henc:cP W0 7 [aG<|bkT shs ns tb rs] [] (aU [S<|V2<|bdG shs ns tb rs,J U 0]) []:=by have c1:=λH=>gW (W0:=W0) (P:=gH) hA Z hck H;have c2:=λH=>gW (W0:=W0) (P:=gH) hA Z hf H;refine goW 7 16 0 ?_;refine Wm ?_;exact We
 have hIn:∀q∈Df shs ns tb rs,InT (Dj<|Df shs ns tb rs) (ixN<|Dj<|Df shs ns tb rs) q:=λq hq=>inT_of<|DY hq;have m1:∀q∈Ei shs,q∈Df shs ns tb rs:=λq hq=>by simp only[Df,eG];exact .inl<|.inl<|.inl hq
 have m2:∀q∈ns.flatMap nmT,q∈Df shs ns tb rs:=λq hq=>by simp only[Df,eG];exact .inl<|.inl<|.inr hq
 have m3:∀q∈K9 tb,q∈Df shs ns tb rs:=λq hq=>by simp only[Df,eG];exact .inl<|.inr hq
 have m4:∀q∈rs.flatMap rlT,q∈Df shs ns tb rs:=λq hq=>by simp only[Df,eG];exact .inr hq
 have hT0:0<N (Dj<|Df shs ns tb rs):=by have:(shs.getD 0 ps0).nm∈Ei shs:=mQ.2 ⟨_,Cb (d:=ps0) Y,gY ..⟩;exact List.length_pos_of_mem<|DY<|m1 _ this
 have hcs:∀x∈shs,N x.cs≤30:=λx hx=>by
  have:∀l:List PSh,x∈l→N x.cs≤Eb l:=λl=>by
   induction l with
   |nil=>intro h;cases h
   |cons y l ih=>
    intro h;simp only[Eb,jZ,List.sum_cons];rcases eS.1 h with rfl|h;·omega
    ·have:=ih h;simp only[Eb]at this;omega
  have:=this shs hx;omega
 have hra:∀r∈rs,(0≤r.a∧r.a<256)∧(0≤r.b∧r.b<256)∧(0≤r.c∧r.c<256)∧(0≤r.d∧r.d<256)∧(0≤r.e∧r.e<256)∧(0≤r.g∧r.g<256):=λr hr=>by obtain⟨⟨a1,a2⟩,⟨b1,b2⟩,⟨c1,c2⟩,⟨d1,d2⟩,⟨e1,e2⟩,_,g⟩:=hR r hr;have g1:0≤r.g∧r.g<256:=Y;exact⟨Y,Y,Y,Y,Y,g1⟩
 have d0:=dictR (W0:=W0) hg (T:=Dj<|Df shs ns tb rs) (s:=bdG shs ns tb rs 0) Z hT0 Y (λq hq=>bI (hT q<|Px hq).2 V) Y;have d1:=sheetsR (W0:=W0) hg (T:=Dj<|Df shs ns tb rs) (ix:=ixN<|Dj<|Df shs ns tb rs) (shs:=shs) (s:=bdG shs ns tb rs 1) Z Y Y Y Y (λq hq=>hIn q<|m1 q hq) (λx hx=>Nat.lt_of_le_of_lt (hcs x hx) V) (λx hx c hc=>by have:=hcl.ok x hx c hc;have h1:=this.1;have h2:=this.2.1;omega);have d2:=namesR (W0:=W0) hg (T:=Dj<|Df shs ns tb rs) (ix:=ixN<|Dj<|Df shs ns tb rs) (ns:=ns) (s:=bdG shs ns tb rs 2) (Sx:=shs.map psV) (B6 _) (by show AP _ _ _=_;rw[jY]) Y Y Y (λp hp=>⟨hIn _<|m2 _<|mQ.2 ⟨p,hp,by simp[nmT]⟩,hIn _<|m2 _<|mQ.2 ⟨p,hp,by simp[nmT]⟩⟩) hna;have d3:=tablesR (W0:=W0) hg (T:=Dj<|Df shs ns tb rs) (ix:=ixN<|Dj<|Df shs ns tb rs) tb (s:=bdG shs ns tb rs 3) (K0:=aR 2<|shs.map psV) (K1:=aR 3<|ns.map nmV) (B6 _) (Ed _) Z Y Y<|λq hq=>hIn q<|m3 q hq;have d4:=rulesR (W0:=W0) hg (T:=Dj<|Df shs ns tb rs) (ix:=ixN<|Dj<|Df shs ns tb rs) (rs:=rs) (s:=bdG shs ns tb rs 4) (K0:=aR 2<|shs.map psV) (K1:=aR 3<|ns.map nmV) (K2:=aR 6<|tlT tb) (B6 _) (Ed _) (by cases tb<;>rfl) (by show FV _ _ _=_;rw[jY]) Y Y Y (λr hr=>hIn _<|m4 _<|mQ.2 ⟨r,hr,by simp[rlT]⟩) hra;have ht:=takenR (W0:=W0) hg (B6 shs) (Ed ns) (show A9 0 (tlT tb)=true by cases tb<;>rfl) (Ea rs) d0 d1 d2 d3 d4;refine⟨⟨Y,hcs,h4,Y,λq hq=>(hT q<|Px hq).2,λx hx=>⟨hIn _<|m1 _<|mQ.2 ⟨x,hx,gY ..⟩,Nat.lt_of_le_of_lt (hcs x hx) V,λc hc=>⟨hIn _<|m1 _<|mQ.2 ⟨x,hx,fF _<|List.mem_map_of_mem hc⟩,by have:=(hcl.ok x hx c hc).1;omega,by have:=(hcl.ok x hx c hc).2.1;omega⟩⟩,λr hr=>⟨hIn _<|m4 _<|mQ.2 ⟨r,hr,by simp[rlT]⟩,hra r hr⟩,λi hi=>?_⟩,hne5,hsz 4 V,henc,decF (W0:=W0) hg Z (hsz 4 V) (hbk 0) ht henc⟩;have:i=0∨i=1∨i=2∨i=3∨i=4:=Y;rcases this with rfl|rfl|rfl|rfl|rfl<;>assumption
theorem entP {e:Ent}(h:Dc gH W0 e)(H:Hz):cP W0 e.f e.args H e.v H:=gW h.1 h.2.1 h.2.2 H
theorem sumA0 (hk:Kn W0)(H:Hz):cP W0 12 [S []] H (J U 1) H:=gW Z Z (Jj hk Dt 60 _ _ _ _ _ (show R9 [] 60 12 [S []] []=some (J U 1,[])by kernel_rfl)) H
theorem sumB0 (hk:Kn W0)(H:Hz):cP W0 12 [S [65]] H (J U 323) H:=gW Z Z (Jj hk Dt 60 _ _ _ _ _ (show R9 [] 60 12 [S [65]] []=some (J U 323,[])by kernel_rfl)) H
theorem awakeP (hk:Kn W0)(hg:hGr W0 G):cP W0 5 [] [] (I true) []:=by refine goM 5 97 ?_;refine sO<|x1 Z<|sO<|mV Z<|mV (v:=aH 2 0 0 1<|some 1) Z<|mV Z ?_;refine mFz (s1:=⟨.al [(17,bkA)],[],97⟩) (Ar 0 Z (iH _) Z Z<|fzC Z (.inl ⟨20,Z⟩) fzN) ?_;refine mV (v:=aP 0 0) Z<|Ai hg gN Z<|mn<|sO<|mV (v:=bkA) Z<|mC Z (entP (awk0 hk) _)<|mV Z<|x4 Z Z Z Z<|sO<|mV Z<|mC Z (entP (awk2 hk) _)<|m4 Z Z Z Z<|mV (v:=aP 1 0) Z<|Ai hg gN Z<|x2 Z Z<|sO<|mV (v:=bkZ) Z<|mC Z (entP (awk3 hk) _)<|mV Z<|x4 Z Z Z Z<|sO<|mC Z (gW Z Z (decX hk hg) _)<|m4 Z Z Z Z<|mV (v:=aP 2 0) Z<|Ai hg gN Z<|x2 Z Z<|sO<|mC Z (gW Z Z (decY hk hg) _)<|m4 Z Z Z Z<|mV (v:=aP 3 0) Z<|Ai hg gN Z<|x2 Z Z<|sO<|mV Z<|mBk hg gN (c:=true) Z Z Z<|mBk hg gN (c:=true) Z Z Z<|mV Z<|mV (v:=J U 62) Z<|mBk hg (gS Z) (c:=true) Z Z Z<|mBk hg gN (c:=true) Z Z Z<|mBk hg gN (c:=true) Z Z Z<|mV Z<|Ac hg (gS Z) (v:=S [84,66,76,49]) Z Z (by simp[Bm,Ah,R2])<|mBk hg (gS Z) (c:=true) Z Z Z<|mBk hg gN (c:=true) Z Z Z<|mBk hg gN (c:=true) Z Z Z<|mV Z<|mBk hg (gS Z) (c:=true) Z Z Z<|mBk hg gN (c:=true) Z Z Z<|mBk hg gN (c:=true) Z Z Z<|mV Z<|mBk hg (gS Z) (c:=true) Z Z Z<|mBk hg gN (c:=true) Z Z Z<|mBk hg gN (c:=true) Z Z Z<|mV (v:=bkA) Z<|mV (v:=bkB) Z<|I7 hg (gS Z) (c:=true) Z Z (entP (awk4 hk) _) Z<|mBk hg gN (c:=true) Z Z Z<|mBk hg gN (c:=true) Z Z Z<|mV Z<|mBk hg (gS Z) (c:=true) Z Z Z<|mBk hg gN (c:=true) Z Z Z<|mBk hg gN (c:=true) Z Z Z<|mV Z<|mBk hg (gS Z) (c:=true) Z Z Z<|mBk hg gN (c:=true) Z Z Z<|mBk hg gN (c:=true) Z Z Z<|mV Z<|mBk hg (gS Z) (c:=true) Z Z Z<|mBk hg gN (c:=true) Z Z Z<|mBk hg gN (c:=true) Z Z Z<|mV Z<|mBk hg (gS Z) (c:=true) Z Z Z<|mBk hg gN (c:=true) Z Z Z<|mBk hg gN (c:=true) Z Z Z<|mV Z<|mBk hg (gS Z) (c:=true) Z Z Z<|mBk hg gN (c:=true) Z Z Z<|mBk hg gN (c:=true) Z Z Z<|mC Z (sumA0 hk _)<|mBk hg (gS Z) (c:=true) Z Z Z<|mBk hg gN (c:=true) Z Z Z<|mBk hg gN (c:=true) Z Z Z<|mC Z (sumB0 hk _)<|mBk hg (gS Z) (c:=true) Z Z Z<|mBk hg gN (c:=true) Z Z Z<|x1 Z ?_;exact ExM.ret<|pL
theorem DT {b:RB}{v:AVal}(h:JL W0 b v):blw 0 v=true:=by
 obtain⟨n,shs,rs,_,rfl,_⟩:=h;have h1:A9 0 (nlN b.nm)=true:=by cases b.nm<;>rfl
 have h2:A9 0 (tlT b.tb)=true:=by cases b.tb<;>rfl
 simp_all[wbV,blw,A9,B6,Ea]
theorem blw1 {v:AVal}(h:blw 0 v=true){r:List AVal}(hr:A9 0 r=true):A9 0 (v::r)=true:=by show cond (blw 0 v) (A9 0 r) false=true;rw[h,hr];rfl
theorem sameZ (hk:Kn W0):cP W0 9 [bkZ,bkZ] [] (I true) []:=cK hk
theorem packCut (hk:Kn W0){b:RB}(hb:UC b){at_:Int}(hat:i64 at_){s:Bz}(hs:N s≤150000000000000):cP W0 4 [aG<|rbL b,J U at_,S s] [] (I true) []:=by
 have hg:=grK hk;obtain⟨ha1,ha2⟩:=hat;have haw:=λH=>gW (W0:=W0) (P:=gH) Z Z (awakeP hk hg) H;refine goW 4 100 0 ?_;refine Wm ?_;refine C6 hg gN Z Z (blw1 (v:=aG<|rbL b) Bw Z) (bookE hk hb) (λv hv=>DT hv)<|λv hv=>?_;have hc:=DT hv;obtain⟨shs,rs,e,hP,_,_,henc,hdec⟩:=encD hk hv;obtain⟨k0,k1,k2,k3,rfl⟩:∃k0 k1 k2 k3,v=aG [aR 2 k0,aR 3 k1,aR 6 k2,aR 8 k3]:=⟨_,_,_,_,e⟩;clear e hv;have hbl:=hP.bl;have ht:V2 (bdG shs (Ua b.nm) b.tb rs)=D4++Bj (bdG shs (Ua b.nm) b.tb rs) 5:=rfl;clear hP;generalize bdG shs (Ua b.nm) b.tb rs=bd at henc hdec hbl ht;generalize V2 bd=t at henc hdec ht;have htl:N t=4+N (Bj bd 5):=by rw[ht,lAp];rfl
 have hl5:N (Bj bd 5)≤100045:=by have z:N (Bj bd 0)=0:=rfl;have s0:N (Bj bd 1)=_:=F4 0;have s1:N (Bj bd 2)=_:=F4 1;have s2:N (Bj bd 3)=_:=F4 2;have s3:N (Bj bd 4)=_:=F4 3;have s4:N (Bj bd 5)=_:=F4 4;have b0:=hbl 0 (by decide);have b1:=hbl 1 (by decide);have b2:=hbl 2 (by decide);have b3:=hbl 3 (by decide);have b4:=hbl 4 (by decide);omega
 have hp:=pickC5 hg (c:=at_) (n:=N t) ha1 ha2 (by omega);have hkl:=C3 (c:=at_) (n:=N t) (by omega);generalize Bg at_ (N t)=k at hp hkl;have c1:=λH=>gW (W0:=W0) (P:=gH) (blw1 hc Z) Z henc H;have c2:=λH=>gW (W0:=W0) (P:=gH) Z Z (decK hg ht (by omega) hkl (s:=t.take k) rfl) H;have cz:=λH=>gW (W0:=W0) (P:=gH) Z Z (sameZ hk) H;have c3:=λH=>gW (W0:=W0) (P:=gH) Z (show blw 0 (aU _)=true from blw1 hc Z) hdec H;have c4:=λ(r:Bz) (hr:r≠[]) (hl:N r≤100) H=>gW (W0:=W0) (P:=gH) Z Z (decN (s:=t++r) (r:=r) hg (by rw[ht]) hr (by rw[lAp];omega)) H;clear henc hdec hbl;refine Wm ?_;obtain⟨m,hm,h1,h2,h3⟩:∃m:Nat,(bif bif false then decide ((N s:Int)<100)else decide ((100:Int)<(N s:Int))then(100:Int)else(N s:Int))=(m:Int)∧m≤100∧m≤N s∧(s≠[]→0<m):=by
  by_cases h:100<N s;·exact⟨100,by rw[cond_false,decide_eq_true (by omega)];rfl,by omega,by omega,λ_=>by omega⟩
  ·exact⟨N s,by rw[cond_false,dF (by omega)];rfl,by omega,by omega,λhn=>nC.2 hn⟩
 rw[hm];have ht2:N (s.take m)=m:=by rw[lW];omega
 by_cases hn:s=[]
 ·have c5:∀H,cP W0 8 [S<|t++s.take m] H (aU [aG [aR 2 k0,aR 3 k1,aR 6 k2,aR 8 k3],J U 0,J U 0]) H:=by rw[hn,List.take_nil,lP];exact c3
  have hn0:N s=0:=by rw[hn];rfl
  clear c3 c4 hn;refine mS (v:=S<|s.take m) Z ?_;refine mS (v:=S<|t++s.take m) Z ?_ (hs:=by simp only[Ah,and_true,lAp];omega);refine Wm ?_;refine mT Z ?_;exact We
 ·have hn0:0<N s:=nC.2 hn;have c5:=c4 (s.take m) (by have:=h3 hn;intro e;have:=congrArg List.length e;rw[lW]at this;simp only[lNi]at this;omega) (by rw[lW];omega);clear c3 c4;refine mS (v:=S<|s.take m) Z ?_;refine mS (v:=S<|t++s.take m) Z ?_ (hs:=by simp only[Ah,and_true,lAp];omega);refine Wm ?_;refine mT Z ?_;refine Wm ?_;exact We
end Go.Abs
namespace Go.Proofs.YtlfcfgbbhlgocaaGreatDoor.packCut
open Go.Abs Go.Shelf Go.ChangeShapes Go.WideShapes Go.ChangeAt Go.RowKit
set_option maxRecDepth 100000
theorem own :ownKnob gH.godebug=none:=by kernel_rfl
theorem RP (H:Type)(enc:TypeId×Value→H)(W:World)(base:Nat)(args:Array Value)(ds gs:List<|DataW H)(before:List MemPlace)
 (hval:∀(j:Nat) t v,nR.params[j]?=some t→args[j]?=some v→Value.okWide gH W .any base t v)
 (hW:DataW.Whole enc gH nR.params.toList Rows.packCutSpec.vars false W args.toList ds gs before) (hR:(DataW.weightsEach gH (nR.params.toList++(OpenSpec.ofChange Rows.packCutSpec).bare.plain.varTypes gH)<|ds++gs).all (· ≤reachBytes)=true) (hL:laidMetH gH Rows.packCutRow.laid W) (hS:W.ShapedOpen gH):
 Calls gH 4 args W λe W'=>∃v,e= .returned v∧Rows.packCutSpec.post enc gH nR false true false false W args v W':=by
 have hW':=hW;obtain⟨p,q,hA0,hV,rfl,hfz,hnd⟩:=hW;have hA:DataW.TrodAll enc gH W 0 (λ_=>true) true nR.params.toList args.toList ds p:=hA0;have hk:Kn W:=kn_laid (show laidMet gH Rows.packCutRow.laid W from hL) hS;rw[nI]at hA hval;obtain⟨v0,vs0,d0,ds0,p0,q0,hargs,rfl,rfl,h0,r0⟩:=trodAll_cons hA;obtain⟨v1,vs1,d1,ds1,p1,q1,rfl,rfl,rfl,h1,r1⟩:=trodAll_cons r0;obtain⟨v2,vs2,d2,ds2,p2,q2,rfl,rfl,rfl,h2,r2⟩:=trodAll_cons r1;obtain⟨rfl,rfl,rfl⟩:=trodAll_nil r2;obtain rfl:args= #[v0,v1,v2]:=by cases args;simp_all
 obtain⟨rfl,rfl⟩:=trodVars_none hV;have o0:=hval 0 24 v0 rfl rfl;have o1:=hval 1 3 v1 rfl rfl;have o2:=hval 2 9 v2 rfl rfl;unfold Value.okWide at o1 o2;rw[Tryz.underlying3]at o1;rw[lE]at o2;obtain⟨S,rfl,hS2⟩:=cellI Tryz.underlying3 o1;have hwt0:∀k,k∈d0.weights gH 24→k≤reachBytes:=λk hkk=>by have h3:=eB.1 hR _<|lG (j:=0) (by rw[nI];rfl) rfl _ hkk;exact of_decide_eq_true h3
 have hwt2:∀k,k∈d2.weights gH 9→k≤reachBytes:=λk hkk=>by have h3:=eB.1 hR _<|lG (j:=2) (by rw[nI];rfl) rfl _ hkk;exact of_decide_eq_true h3
 obtain⟨cs,rfl,hcs⟩:∃s:ByteArray,v2= .string s∧s.data.toList.length≤150000000000000:=by
  obtain⟨s,hs⟩:∃s,v2= .string s:=by unfold Cell.okWide at o2;rw[lE]at o2;cases v2<;>simp_all[Cell.ok]
  subst hs;obtain⟨n2,hn2⟩:=h2;have hn2':DataW.trod enc gH W 0 (λ_=>true) true n2 9 [.string s]=some (d2,p2):=hn2;obtain⟨s',e1,e2,_⟩:=DataW.trod_string lE hn2';obtain rfl:s=s':=by injection e1 with e1;injection e1
  obtain rfl:d2= .lit (.string s.data.toList):=by simpa using congrArg Prod.fst e2
  have h6:=hwt2 s.data.toList.length (by simp[DataW.weights]);unfold reachBytes at h6;exact⟨s,rfl,by omega⟩
 obtain⟨b,hb,rb⟩:=rawOpen o0 h0 hwt0;have walk:=Go.Abs.packCut hk hb (hasI hS2) (s:=cs.data.toList) hcs;have hh:Ae W (λ_=>False) [] [] W:=⟨rfl,Below.refl _ _,λb hb=>by simp at hb,List.nodup_nil,λb hb=>hb.elim,λi o b hi=>by simp at hi⟩;have hlt:∀x∈p0++(p1++p2),x.block<W.heap.size:=λx hx=>by have:=hW'.lt x (by simp only[lP,eG]at hx⊢;exact hx);simpa using this
 refine(walk.2 (λ_=>False) [] W [v0,.int .i64 S,.string cs] hh ?_).mono ?_;·exact⟨_,_,rfl,rb,_,_,rfl,rfl,_,_,rfl,(by show Value.string cs= .string ⟨cs.data.toList.toArray⟩;rw[T9]),rfl⟩
 ·rintro e W' ⟨cv,bs',rfl,hr,hbase,hx2⟩;obtain rfl:cv= .bool true:=by simpa only[Rep]using hr
  refine⟨_,rfl,_,_,_,[],p0++(p1++p2),[],hW',?_,?_,?_,hbase.base.frame _,λh=>by cases h⟩;·exact trodAll_mk1<|shut_bool Tryz.underlying4 _
  ·rw[nI];exact trodAll_mk3 (nS BT (by kernel_rfl) (of_decide_eq_true (by kernel_rfl)) h0 hbase.base λx hx=>hlt x<|nM _ hx) (nS BT (by kernel_rfl) (of_decide_eq_true (by kernel_rfl)) h1 hbase.base λx hx=>hlt x<|mZ _<|nM _ hx)<|nS BT (by kernel_rfl) (of_decide_eq_true (by kernel_rfl)) h2 hbase.base λx hx=>hlt x<|mZ _<|mZ _ hx
  ·rfl
end Go.Proofs.YtlfcfgbbhlgocaaGreatDoor.packCut
