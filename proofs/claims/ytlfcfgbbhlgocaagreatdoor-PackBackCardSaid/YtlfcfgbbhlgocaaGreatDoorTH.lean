/- A part of the proof that tabula/tabulalaw25.PackBack returns true for every input, each argument reading as it did (its card: the last text). No conditions of its own. -/
import Derived.Test.YtlfcfgbbhlgocaaGreatDoorTG
import Derived.Shelf.Strings.SlTrimAscii
set_option linter.unusedVariables false
set_option linter.unusedSimpArgs false
set_option maxHeartbeats 4000000
open List renaming length->N
open Go.Abs.AVal renaming int->J,str->S,bool->I,ptr->aP,row->aR,tup->aU,agg->aG,hsl->aH,nilSl->aN,eptr->aE
open Go.Abs.HObj renaming cells->C
open Go.IntKind renaming i64->U,i8->z8
open Bool renaming and_self->kC
open Go.Abs.A5 renaming pure->hO
open Go.Abs.AVal renaming one->fW
open Go.Abs.ExM renaming ret->iL,exit->iN,seq->iO,loopJ->jT,ops->iM,sub->jU,block->jK,drawC->kH,cond->kP,draw->iV
open Go.Abs.SP renaming mayB->jR
open Go.IntKind renaming wrap_u64->jX
open Go.Lib renaming hasPrefix->gJ,trimPrefix->iC,cut->iB
open Go.Proofs.Tryz renaming prog->gH
open Int renaming le_refl->dS
open List renaming replicate->fH,getElem?_cons_succ->eT,getElem?_cons_zero->eV,set_set->jW,length_map->jY,mem_cons->eS,map_cons->jZ,dropWhile_cons->kG,set_cons_succ->kK,set_cons_zero->kL,range->eD
open Nat renaming zero_le->hZ,beq->aA,beq_refl->fY,le_refl->bC,ble->bK,le_trans->bI,blt->bB
namespace Go.Abs
open Go.Proofs Go.RowKit
set_option maxRecDepth 100000
variable {W0 : World} {G : List (Nat × AVal)}
theorem nextY {s:St}{x:AOpd}{id pos:Nat}{t:Bz}(hx:ev G s x=some (aP id 0))(ho:s.H[id]?=some (.iter t pos))(hlt:pos<N t):aop G s (.next x)=some (.val (aU [I true,J U (pos:Nat),J .i32 ((L2 t pos).1:Nat)]) (s.H.set id<|.iter t<|pos+(L2 t pos).2) []):=by
 have h:bB pos (N t)=true:=by simp_all
 simp only[aop,hx,Wt,fY,cond_true,ho,h]
theorem nextN {s:St}{x:AOpd}{id pos:Nat}{t:Bz}(hx:ev G s x=some (aP id 0))(ho:s.H[id]?=some (.iter t pos))(hlt:¬pos<N t):aop G s (.next x)=some (.val (aU [I false]) s.H []):=by
 have h:bB pos (N t)=false:=by grind[Nat.blt_eq]
 simp_all[aop,Wt]
theorem oddF (hg:hGr W0 G){r:Nat}(h1:32≤r)(h2:r≠127):cP W0 173 [J .i32 (r:Nat)] [] (I false) []:=by refine goM 173 9 ?_;refine sO<|x1 Z<|sO<|mV Z<|mF Z<|m2 Z Z<|mF Z<|x2 Z Z ?_;exact iL<|pS
theorem idxF (hg:hGr W0 G){s:Bz}(h:Txt s 0):cP W0 272 [S s,.fn 173 [] [],I true] [] (J U<|-1) []:=by
 refine goM 272 21 ?_;refine iO<|iM hg<|Ac hg gN Z Z O<|Bg<|iO<|iO<|iM hg<|Ac hg gN Z Z O<|Ac hg gN (v:=aP 0 0) Z Z O<|Bg<|jK<|ExM.loopS (σ:=Nat) (λi=>⟨.al [(0,S s),(1,.fn 173 [] []),(2,I true),(10,aP 0 0)],[.iter s i],21⟩) (λi=>Txt s i) (λi=>N s-i) 0 (Ap Z Z<|sbC Z<|sbC Z<|sbC Z<|sbC Z sbN) h ?_;intro i hT;have hle:=hT.le;refine sO ?_;by_cases hin:i<N s;·obtain⟨q1,q2,q3,q4⟩:=hT.rune hin;refine mV (v:=aU [I true,J U (i:Nat),J .i32 ((L2 s i).1:Nat)]) (nextY Z Z hin)<|x1 Z<|sq<|cT Z<|kM<|bM<|sO<|x4 Z Z Z Z<|sO<|m2 Z Z<|Hv hg gN (c:=false) Z Z (hO (args:=[J .i32 ((L2 s i).1:Nat)]) Z Z (oddF hg q2 q3) _) Z<|mV Z<|mBk hg gN (c:=false) Z Z Z<|mn<|cF Z<|kM ?_;exact⟨i+(L2 s i).2,q1,by grind[L2],Ap rfl rfl<|sbC Z<|sbC Z<|sbC Z<|sbC Z sbN⟩
 ·refine mV (v:=aU [I false]) (nextN Z Z hin)<|x1 Z<|sq<|cF Z<|iN<|sO<|x1 Z<|iL ?_;exact pL
theorem idx186 (hg:hGr W0 G){s:Bz}(h:Txt s 0):cP W0 235 [S s,.fn 173 [] []] [] (J U<|-1) []:=by refine goM 235 8 ?_;refine sO<|x1 Z<|sO<|m2 Z Z<|mC Z (idxF hg h)<|x1 Z ?_;exact iL<|pS
theorem con148 (hg:hGr W0 G){s:Bz}(h:Txt s 0):cP W0 174 [S s,.fn 173 [] []] [] (I false) []:=by refine goM 174 9 ?_;refine sO<|x1 Z<|sO<|m2 Z Z<|mC Z (idx186 hg h)<|mBk hg gN (c:=false) Z Z Z<|x1 Z ?_;exact iL<|pS
theorem textT (hg:hGr W0 G)(hw:Lw W0){s:Bz}(h:Txt s 0)(hl:N s≤200):cP W0 119 [S s] [] (I true) []:=by refine goM 119 17 ?_;refine sO<|x1 Z<|sO<|x1 Z<|sO<|m2 Z Z<|mT Z<|m2 Z Z<|Hv hg (gS Z) (c:=true) Z Z (QD hw Y) h.valid<|m4 Z Z Z Z<|Hv hg (gS Z) (c:=false) Z Z (con148 hg h) Z<|x3 Z Z Z ?_;exact iL<|pS
theorem QO (hg:hGr W0 G){s:Bz}(hs:N s≤100000):Aw gH W0 116 [S s] (λv=>∃t,v=S t):=by
 refine goE 116 30 ?_;refine iO<|iM hg<|Ac hg gN Z Z O<|Bg<|iO<|iM hg<|Ac hg gN Z Z O<|Ac hg gN (v:=aH 1 0 0 (N s) none) Z Z O<|Ac hg gN Z Z O<|Bg<|iO<|iO<|iM hg<|Ac hg gN Z Z O<|Ac hg gN Z Z O<|Ac hg gN Z Z O<|Bg<|jK<|ExM.loop (σ:=Nat×List Nat) (λσ=>⟨.al [(3,aH 1 0 0 (N s) none),(8,aH 1 0 0 (N s) none),(9,J U (N s:Nat)),(10,J U (σ.1:Nat))],[C 5 (u8s σ.2) false],30⟩) (λσ=>σ.1≤N s∧N σ.2=N s) (λσ=>N s-σ.1) (0,s.map UInt8.toNat) (As 1 Z (hZ _) (by rw[←s2bB];rfl) (Ov _)<|fzC Z (fvH Z)<|fzC Z (fvH Z)<|fI<|fI fzN) ⟨hZ _,B4⟩ ?_;rintro⟨i,l⟩ ⟨hi,hl⟩;simp only at hi hl⊢;refine sO ?_;by_cases hin:i<N s
 ·refine mT Z<|mn<|sq<|cT Z<|kM<|sq<|bM<|sO<|mV Z<|mS (v:=aP 0 i) (NB Z Z Z)<|mV (v:=J .u8 (l.getD i 0:Nat)) (JK Z Z Y)<|x2 Z Z<|sO<|mV Z ?_;by_cases h65:65≤l.getD i 0
  ·refine mT Z<|m2 Z Z ?_;by_cases h90:l.getD i 0≤90;·refine mT Z<|x1 Z<|cT Z<|oM<|m3 Z Z Z<|mKs (v:=J .u8<|(l.getD i 0+97:Nat)) Z (w8E Y Y Y)<|mK (v:=J .u8<|(l.getD i 0+32:Nat)) Z (w8E Y Y Y)<|mS (v:=aP 0 i) (NB Z Z Z)<|Ai hg gN (TX Z Z Z Y Z)<|mn<|oM<|mI ((i+1:Nat)) Z<|x1 Z ?_;exact⟨(i+1,l.set i<|l.getD i 0+32),⟨Y,by grind⟩,Y,As 1 rfl (hZ _) rfl (Ov _)<|fzC Z (fvH Z)<|fzC Z (fvH Z)<|fI<|fI fzN⟩
   ·refine mF Z<|x1 Z<|cF Z<|kM<|oM<|mI ((i+1:Nat)) Z<|x1 Z ?_;exact⟨(i+1,l),⟨Y,Y⟩,Y,As 1 Z (hZ _) Z (Ov _)<|fzC Z (fvH Z)<|fzC Z (fvH Z)<|fI<|fI fzN⟩
  ·refine mF Z<|mV Z<|mG<|mG<|x1 Z<|cF Z<|kM<|oM<|mI ((i+1:Nat)) Z<|x1 Z ?_;exact⟨(i+1,l),⟨Y,Y⟩,Y,As 1 Z (hZ _) Z (Ov _)<|fzC Z (fvH Z)<|fzC Z (fvH Z)<|fI<|fI fzN⟩
 ·refine mF Z<|mn<|sq<|cF Z<|iN<|sO<|mV Z<|mV (v:=S<|l.map UInt8.ofNat) (b2sB Z Z hl.symm)<|x1 Z<|iL ?_;exact⟨_,⟨_,Z⟩,A4 O Z Z 100 Z Z⟩
theorem truthsV (hg:hGr W0 G){s:Bz}(hs:N s≤100000):Aw gH W0 113 [S s] (λv=>∃a b,v=aU [I a,I b]):=by
 refine goE 113 15 ?_;refine sO<|x2 Z Z<|sO<|mV Z ?_;refine C4 hg gN Z Z Z (QO hg hs) ?_ ?_;·rintro _ ⟨t,rfl⟩;rfl
 rintro _ ⟨t,rfl⟩;refine x1 Z<|sO<|mV Z ?_;refine mB hg gN Z Z O (λh1=>?_)<|λh1=>?_
 ·refine mV Z ?_;refine mB hg gN Z Z O (λh2=>?_)<|λh2=>?_;·refine mV Z<|mG<|mG<|x3 Z Z Z ?_;exact iL ⟨_,⟨_,_,Z⟩,A6 O Z Z Z⟩
  grind
 ·refine mV Z ?_;refine mB hg gN Z Z O (λh4=>?_)<|λh4=>?_;·grind
  ·refine m2 Z Z ?_;refine mB hg (gS Z) Z Z O (λh5=>?_)<|λh5=>?_;·refine x3 Z Z Z ?_;exact iL ⟨_,⟨_,_,Z⟩,A6 O Z Z Z⟩
   ·refine x3 Z Z Z ?_;exact iL ⟨_,⟨_,_,Z⟩,A6 O Z Z Z⟩
theorem numV (hg:hGr W0 G){m e:Int}:cP W0 112 [aG [J U m,J U e]] [] (E5 1 m e [] false 0) []:=by refine goM 112 5 ?_;refine sO<|mV (v:=aP 0 0) Z<|mV (v:=aP 1 0) Z<|mn<|sO<|m2 Z Z<|Ai hg gN Z<|mn ?_;exact iL<|pL
theorem truV (hg:hGr W0 G){b:Bool}:cP W0 114 [I b] [] (E5 3 0 0 [] b 0) []:=by refine goM 114 5 ?_;refine sO<|mV (v:=aP 0 0) Z<|mn<|sO<|m2 Z Z<|Ai hg gN Z<|mn ?_;exact iL<|pL
theorem errW (hg:hGr W0 G){n:Int}:cP W0 117 [J U n] [] (E5 4 0 0 [] false n) []:=by refine goM 117 5 ?_;refine sO<|mV (v:=aP 0 0) Z<|mn<|sO<|m2 Z Z<|Ai hg gN Z<|mn ?_;exact iL<|pL
theorem saidV (hg:hGr W0 G){s:Bz}:cP W0 120 [S s] [] (E5 2 0 0 s false 0) []:=by refine goM 120 5 ?_;refine sO<|mV (v:=aP 0 0) Z<|mn<|sO<|m2 Z Z<|Ai hg gN Z<|mn ?_;exact iL<|pL
def nms :List Bz:=[[35,78,85,76,76,33],[35,68,73,86,47,48,33],[35,86,65,76,85,69,33],[35,82,69,70,33],[35,78,65,77,69,63],[35,78,85,77,33],[35,78,47,65],[35,83,80,73,76,76,33],[35,67,73,82,67,33]]
theorem namesV (hg:hGr W0 G):cP W0 115 [] [] (aG<|nms.map S) []:=by refine goM 115 2 ?_;refine sO<|mV (v:=aP 0 0) Z<|mn<|sO<|mV Z<|Ai hg gN Z<|mn ?_;exact iL<|pL
theorem idxV {s:St}{x i:AOpd}{j:Nat}(hx:ev G s x=some (aG<|nms.map S))(hi:ev G s i=some (J U (j:Nat)))(hj:j<9):aop G s (.idxVal 9 1 false x i)=some (.val (S<|nms.getD j []) s.H [(0,(j:Int)),((j:Int)+1,((9:Nat):Int))]):=by simp only[aop,hx,hi];have:j=0∨j=1∨j=2∨j=3∨j=4∨j=5∨j=6∨j=7∨j=8:=Y;rcases this with rfl|rfl|rfl|rfl|rfl|rfl|rfl|rfl|rfl<;>rfl
theorem nms_len (j:Nat):N (nms.getD j [])≤100:=by
 rcases Nat.lt_or_ge j 9 with h|h
 ·have:j=0∨j=1∨j=2∨j=3∨j=4∨j=5∨j=6∨j=7∨j=8:=by omega
  rcases this with rfl|rfl|rfl|rfl|rfl|rfl|rfl|rfl|rfl<;>decide
 ·rw[List.getD_eq_getElem?_getD,List.getElem?_eq_none (by exact h)];decide
theorem QN {s:Bz}:N (iC s [39])≤N s:=by rcases tr39 s with h|⟨r,rfl,h⟩;all_goals grind
theorem readOK (hk:Kn W0)(hg:hGr W0 G)(hdec:∀s:Bz,N s≤200→Aw gH W0 111 [S s] λv=>∃m e er:Int,v=aU [aG [J U m,J U e],J U er]){s:Bz}(hl:lit s)(hne:s≠[]):Aw gH W0 73 [S s] (λv=>blw 0 v=true∧∃c,v=aU [aG c,J U 0]∧N c=12∧c.all fW=true):=by
 obtain⟨h1,hlen,hT⟩:=hl;have h61:s.getD 0 0≠61:=by cases s with|nil=>exact absurd rfl hne|cons c r=>exact h1 c r rfl
 refine goE 73 59 ?_;refine sO<|mV (v:=aP 0 0) Z<|x1 Z<|sq<|bM<|sO<|mV Z<|mBk hg gN (c:=false) Z Z (by grind)<|x1 Z<|cF Z<|sO<|mV Z<|Ac hg gN (v:=J .u8 ((s.getD 0 0).toNat:Nat)) (J8 (n:=0) Z Z) Z bY183<|mBk hg gN (c:=false) Z Z (by rw[bFn];intro e;exact h61<|UInt8.toNat_inj.1 (by grind))<|x1 Z<|cF Z<|kM<|sq<|sO<|mV Z ?_;refine C4 hg gN Z Z Z (hdec s hlen) ?_ ?_;·rintro _ ⟨m,e,er,rfl⟩;rfl
 rintro _ ⟨m,e,er,rfl⟩;refine m3 Z Z Z<|mV (v:=aP 1 0) Z<|Ai hg gN Z<|x1 Z<|sO<|mV Z ?_;refine mB hg gN Z Z O (λh1=>?_)<|λh1=>?_;·refine mn<|cT Z<|sO<|mV Z<|mC Z (hO Z Z (numV hg) _)<|Ai hg gN Z<|x1 Z<|iL ?_;exact⟨_,⟨Z,_,Z,Z,Z⟩,A4 O Z Z 100 Z Z⟩
 ·refine mn<|cF Z<|kM<|sq<|sO<|mV Z ?_;refine C4 hg gN Z Z Z (truthsV hg Y) ?_ ?_;·rintro _ ⟨a1,a2,rfl⟩;rfl
  rintro _ ⟨a1,a2,rfl⟩;refine mV Z<|x4 Z Z Z Z<|sO ?_;refine mB hg gN Z Z O (λh2=>?_)<|λh2=>?_;·refine mn<|cT Z<|sO<|mV Z<|mC Z (hO Z Z (truV hg) _)<|Ai hg gN Z<|x1 Z<|iL ?_;exact⟨_,⟨Z,_,Z,Z,Z⟩,A4 O Z Z 100 Z Z⟩
  ·refine mn<|cF Z<|kM<|sq<|sO<|mC Z (hO Z Z (namesV hg) _)<|x1 Z<|bM<|ExM.loop (σ:=Nat) (λj=>⟨.al [(0,S s),(2,aP 0 0),(37,aG<|nms.map S),(38,J U (j:Nat))],[C 132 [J U 0,J U 0,J U 0,S [],I false,J U 0,J U 0,J U 0,aN,J U 0,aN,aN] false],59⟩) (λj=>j≤9) (λj=>9-j) 0 (As 1 Z (hZ _) Z Z<|fS<|fzC Z (fvP Z)<|fzC Z (.inl ⟨12,Z⟩)<|fI fzN) V ?_;rintro j hj;refine sO ?_;by_cases hj9:j<9
   ·refine mT Z<|mn<|sq<|cT Z<|kM<|sq<|bM<|sO<|mV Z<|mS (v:=S<|nms.getD j []) (idxV Z Z hj9)<|x2 Z Z<|sO<|mV Z ?_;refine C4 hg gN Z Z Z (QO hg (s:=nms.getD j [])<|bI (nms_len j) V) ?_ ?_;·rintro _ ⟨t1,rfl⟩;rfl
    rintro _ ⟨t1,rfl⟩;refine mV Z ?_;refine C4 hg gN Z Z Z (QO hg Y) ?_ ?_;·rintro _ ⟨t2,rfl⟩;rfl
    rintro _ ⟨t2,rfl⟩;refine mB hg gN Z Z O (λh3=>?_)<|λh3=>?_;·refine mn<|cT Z<|sO<|mV Z<|mI ((j+1:Nat)) Z<|mC Z (hO Z Z (errW hg) _)<|Ai hg gN Z<|x1 Z<|iL ?_;exact⟨_,⟨Z,_,Z,Z,Z⟩,A4 O Z Z 100 Z Z⟩
    ·refine mn<|cF Z<|kM<|oM<|mI ((j+1:Nat)) Z<|x1 Z ?_;exact⟨j+1,Y,Y,As 1 Z (hZ _) Z Z<|fS<|fzC Z (fvP Z)<|fzC Z (.inl ⟨12,Z⟩)<|fI fzN⟩
   ·refine mF Z<|mn<|sq<|cF Z<|iN<|sO<|mV Z<|mC Z FJ<|x1 Z<|sq<|sO<|mV Z<|Hv hg gN (c:=true) Z Z (hO Z Z (textT hg hk.w hT<|bI QN Y) _) Z<|x1 Z<|cF Z<|kM<|sO<|mV Z<|mC Z (hO Z Z (saidV hg) _)<|Ai hg gN Z<|x1 Z<|iL ?_;exact⟨_,⟨Z,_,Z,Z,Z⟩,A4 O Z Z 100 Z Z⟩
def Dg9 (l:List Int):Prop:=∀n,0≤l.getD n 0∧l.getD n 0≤9
def Hi0 (l:List Int):Prop:=∀n,88≤n→l.getD n 0=0
theorem DU {l:List Int}{i n:Nat}{v:Int}:(l.set i v).getD n 0=if n=i∧i<N l then v else l.getD n 0:=by grind
theorem DQ {l:List Int}{k n:Nat}:(clr l k).getD n 0=if n<k then 0 else l.getD n 0:=by unfold clr;grind
theorem Dg9.set {l:List Int}(h:Dg9 l){i:Nat}{v:Int}(h1:0≤v)(h2:v≤9):Dg9 (l.set i v):=λn=>by
 rw[DU];split;·omega
 ·exact h n
theorem Hi0.set {l:List Int}(h:Hi0 l){i:Nat}{v:Int}(hi:i<88∨v=0):Hi0 (l.set i v):=λn hn=>by
 rw[DU];split;·omega
 ·exact h n hn
theorem Dg9.clr {l:List Int}(h:Dg9 l)(k:Nat):Dg9 (clr l k):=λn=>by rw[DQ];split;exact⟨dS _,V⟩;exact h n
theorem Hi0.clr {l:List Int}(h:Hi0 l)(k:Nat):Hi0 (clr l k):=λn hn=>by rw[DQ];split;rfl;exact h n hn
theorem w8 {x:Int}(h1:-128≤x)(h2:x≤127):z8.wrap x=x:=by simp[IntKind.wrap,IntKind.bits,IntKind.signed];omega
theorem Dg9.w {l:List Int}(_:Dg9 l):True:=trivial
structure Wr where
 c:List Int
theorem cutQ (hg:hGr W0 G){H:Hz}{id T:Nat}{b m:Bool}{l:List Int}(ho:H[id]?=some (C T (nb b l m) false))(hl:N l=96)(hd:Dg9 l)(hz:Hi0 l){k:Nat}(hk:k≤87)(up:Bool):I8 gH W0 230 [aP id 0,J U k,I up] H (λv X=>∃l',v=aU []∧X=H.set id (C T (nb b (l') false) false)∧N l'=96∧Dg9 l'):=by
 have hid:=gLt ho;have ho1:(H.set id<|C T (nb b (clr l k) m) false)[id]?=some (C T (nb b (clr l k) m) false):=gT hid;have hcl0:N (clr l k)=96:=by grind[HD]
 refine goQ 230 41 ?_;refine sO<|mV Z<|mV (v:=aP id 0) (Im Z ho)<|mV (v:=aP id 1) (Gv Z ho)<|mV Z<|Ac hg gN (v:=aH 1 id 1 k<|some 96) (cutN Z Z ho hl) Z GQ<|mVal0 hg gN (clearN Z ho Y Z) O<|Bg<|iO<|iM hg<|Ac hg gN Z Z O<|Ac hg gN (v:=aP id 0) (Im Z ho1) Z O<|Ac hg gN (v:=aP id 97) (Gv Z ho1) Z O<|Ai hg gN (storeNm Z Z ho1 hcl0 (by rw[jW]))<|Bg<|iO<|iM hg<|Ac hg gN Z Z O<|Ac hg gN Z Z O<|Bg<|jK ?_;refine jT (σ:=Nat×List Int) (τ:=Wr) (λ⟨i,c⟩=>⟨.al [(0,aP id 0),(2,I up),(6,J U i)],H.set id<|C T (nb b (c) false) false,41⟩) (λ⟨i,c⟩=>i≤88∧N c=96∧Dg9 c∧Hi0 c) (λ⟨i,c⟩=>88-i) ⟨k,clr l k⟩ 0 (λ⟨c⟩=>⟨.al [],H.set id<|C T (nb b (c) false) false,41⟩) (λ⟨c⟩=>N c=96∧Dg9 c) (Ap Z Z<|sbC Z<|sbC Z<|sbC Z<|sbN) ⟨Y,hcl0,hd.clr k,hz.clr k⟩ ?_ ?_
 ·rintro⟨i,c⟩ ⟨hi,hcl,hcd,hcz⟩;have hi:i≤88:=hi;have hcl:N c=96:=hcl;have hcd:Dg9 c:=hcd;have hcz:Hi0 c:=hcz;have hoc:∀{x:List Int},(H.set id<|C T (nb b x false) false)[id]?=some (C T (nb b x false) false):=gT hid;have hgi:=hcd i;cases up with
  |false=>refine sq<|sO<|x1 Z<|cF Z ?_;exact iN<|.inl ⟨Z,⟨c⟩,⟨hcl,hcd⟩,Ap Z Z<|sbN⟩
  |true=>
   refine sq<|sO<|x1 Z<|cT Z<|kM<|sq<|bM<|sq<|sq ?_;refine ExM.drawL hg ?_;refine Ao (v:=aP id 0) Z Z O<|qV Z<|Ao (v:=aP id 0) (Im Z hoc) Z O<|Ao (v:=aP id 1) (Gv Z hoc) Z O<|Ao (v:=aP id<|1+i) (W1 Z Z hoc) Z GQ<|Ao (v:=J z8<|c.getD i 0) (Wq Z hoc Y) Z O<|qKv (v:=J z8<|c.getD i 0+1) Z Z O (congrArg (J z8)<|w8 Y Y)<|Ao (v:=aP id 0) (Im Z hoc) Z O<|Ao (v:=aP id 1) (Gv Z hoc) Z O<|Ao (v:=aP id<|1+i) (W1 Z Z hoc) Z GQ<|Dx<|?_;refine zSkip (Xt (H':=H.set id<|C T (nb b ((c.set i<|c.getD i 0+1)) false) false) Z Z hoc Y (by simp_all)) ?_;refine sO<|m2 Z Z<|mV (v:=aP id 0) (Im Z hoc)<|mV (v:=aP id 1) (Gv Z hoc)<|Ac hg gN (v:=aP id<|1+i) (W1 Z Z hoc) Z GQ<|mV (v:=J z8<|(c.set i<|c.getD i 0+1).getD i 0) (Wq Z hoc (by grind)) ?_;refine mB hg gN Z Z O (λh1=>?_)<|λh1=>?_
   ·have hv:c.getD i 0+1<10:=by grind
    refine mn<|cT Z ?_;refine iL ?_;refine .inr ?_;exact⟨aU [],_,⟨(c.set i<|c.getD i 0+1),Z,Z,by grind,hcd.set Y Y⟩,A6 (vs:=[]) trivial rfl rfl rfl⟩
   ·have hv:¬c.getD i 0+1<10:=by grind
    have hi8:i<88:=by
     rcases Nat.lt_or_ge i 88 with h|h;·exact h
     ·have:=hcz i h;omega
    refine mn<|cF Z<|kM<|oM<|m2 Z Z<|mV (v:=aP id 0) (Im Z hoc)<|mV (v:=aP id 1) (Gv Z hoc)<|Ac hg gN (v:=aP id<|1+i) (W1 Z Z hoc) Z GQ<|Ai hg gN (Xt Z Z hoc (by grind) (by rw[jW]))<|mn<|oM<|mV Z<|mI ((i+1:Nat):Int) Z<|x1 Z ?_;exact⟨⟨i+1,(c.set i<|c.getD i 0+1).set i 0⟩,⟨(Y:i+1≤88),(by grind),(λn=>by rw[jW];exact hcd.set (dS _) V n),(λn hn=>by rw[jW];exact hcz.set (.inl hi8) n hn)⟩,(by grind),Ap Z Z<|sbC Z<|sbC Z<|sbC Z<|sbN⟩
 ·rintro⟨c⟩ s' hJ hs;exact⟨aU [],_,⟨c,Z,hs.H.symm,hJ.1,hJ.2⟩,(A6 (rs:=[]) (vs:=[]) O Z Z Z:Ja [] (N H) (aU []) _ .normal s')⟩
theorem PG {r M d:Nat}(h:(M+1)*10^(r+1)≤1000000000000000)(hd:d≤9):(10*M+d+1)*10^r≤1000000000000000:=by have:(10*M+d+1)*10^r≤((M+1)*10)*10^r:=Nat.mul_le_mul_right _ Y;grind
theorem UF {r M:Nat}(h:(M+1)*10^r≤1000000000000000):M<1000000000000000:=by have h1:1≤10^r:=Nat.one_le_pow _ _ V;have:(M+1)*1≤(M+1)*10^r:=Nat.mul_le_mul_left _ h1;omega
theorem UW (M:Nat):((M:Nat):Int).tmod 10=((M%10:Nat):Int):=by grind
structure ME where
 M:Nat
 E:Int
theorem HO (hg:hGr W0 G){o0 o1:HObj}{b m:Bool}{l:List Int}(hl:N l=96)(hd:Dg9 l){k:Nat}{t:Int}(hk:39≤k∧k≤57)(ht0:-1≤t)(ht1:t≤95)(ht:t<((k:Nat):Int)+15)(hb:B7 3 [o0,o1,C 229 (nb b l m) false]=true):I8 gH W0 232 [aP 2 0,J U t,J U k] [o0,o1,C 229 (nb b l m) false] (λv X=>X=[o0,o1,C 229 (nb b l m) false]∧∃M E:Int,v=aG [J U M,J U E]∧-1000000000000000<M∧M<1000000000000000∧-9≤E∧E≤9):=by
 refine goQ 232 61 ?_;refine iO<|iM hg<|Ac hg gN Z Z O<|Bg<|iO<|iM hg<|Ac hg gN Z Z O<|Ac hg gN Z Z O<|Ai hg gN Z<|Bg<|iO<|iO<|iM hg<|Ac hg gN Z Z O<|Ac hg gN Z Z O<|Bg<|jK ?_;refine jT (σ:=ME) (τ:=Nat) (λ⟨M,i⟩=>⟨.al [(0,aP 2 0),(2,J U k),(6,aP 3 0),(7,aP 4 0),(8,J U i)],[o0,o1,C 229 (nb b l m) false,C 54 z5L false,C 54 [J U<|((M:Nat):Int),J U<|0] false],61⟩) (λ⟨M,i⟩=>i≤95∧i<((k:Nat):Int)+15∧(M+1)*10^(i-((k:Nat):Int)+1).toNat≤1000000000000000) (λ⟨M,i⟩=>(i-((k:Nat):Int)+1).toNat) ⟨0,t⟩ 0 (λM=>⟨.al [(0,aP 2 0),(2,J U k),(6,aP 3 0),(7,aP 4 0)],[o0,o1,C 229 (nb b l m) false,C 54 z5L false,C 54 [J U<|((M:Nat):Int),J U<|0] false],61⟩) (λM=>M<1000000000000000) (Ap Z Z<|sb4 Z Z Z Z<|(((sbC Z<|sbN)))) ⟨ht1,ht,by show(0+1)*10^(t-((k:Nat):Int)+1).toNat≤10^15;rw[Nat.zero_add,Nat.one_mul];exact Nat.pow_le_pow_right V Y⟩ ?_ ?_
 ·rintro⟨M,i⟩ ⟨hi,hi2,hM⟩;have hi:i≤95:=hi;have hi2:i<((k:Nat):Int)+15:=hi2;have hM:(M+1)*10^(i-((k:Nat):Int)+1).toNat≤1000000000000000:=hM;refine sq<|sO<|m2 Z Z ?_;by_cases hik:i<((k:Nat):Int);·refine mF Z<|mn<|cF Z<|iN ?_;exact .inl ⟨Z,M,(UF hM),Ap Z Z<|sb4 Z Z Z Z<|(((sbN)))⟩
  obtain⟨r,hr⟩:∃r:Nat,i=((k+r:Nat):Int):=⟨(i-((k:Nat):Int)).toNat,Y⟩;rw[show(i-((k:Nat):Int)+1).toNat=r+1 from by omega]at hM;have hMl:=UF hM;have hdk:=hd<|k+r;obtain⟨d,hd0⟩:∃d:Nat,l.getD (k+r) 0=(d:Nat):=⟨(l.getD (k+r) 0).toNat,Y⟩;refine mT Z<|mn<|cT Z<|kM<|sq<|bM<|ExM.drawL hg<|Ao Z Z O<|Ao (v:=J U M) Z Z O<|qKv (v:=J U (10*M:Nat)) Z Z O (Bw Y Y Y)<|Ao Z Z O<|qKv (v:=J U (k+r:Nat)) Z Z O (iE Y)<|Ao (v:=aP 2 0) (Im Z Z) Z O<|Ao (v:=aP 2 1) (Gv Z Z) Z O<|Ao (v:=aP 2<|1+(k+r)) (W1 Z Z Z) Z K7<|Ao (v:=J z8<|l.getD (k+r) 0) (Wq Z Z Y) Z O<|qKv (v:=J U d) Z Z O (by grind[Bw])<|qKv (v:=J U (10*M+d:Nat)) Z Z (by simp_all[Ah]) (Bw Y Y Y)<|Ao Z Z O<|Dx<|zSkip Z<|iM hg<|Ac hg gN Z Z O<|mKv hg gN (v:=J U<|i-1) Z Z O (Bw Y Y Y)<|Ac hg gN Z Z O<|Bg ?_;exact⟨⟨10*M+d,i-1⟩,⟨Y,Y,by show(10*M+d+1)*10^(i-1-((k:Nat):Int)+1).toNat≤1000000000000000;rw[show(i-1-((k:Nat):Int)+1).toNat=r from by omega];exact PG hM Y⟩,(by grind),Ap rfl rfl<|sb4 Z Z Z Z<|(((sbC Z<|sbN)))⟩
 ·rintro M s' hJ hs;have hM:M<1000000000000000:=hJ;refine jU hs ?_;refine sq<|sO<|mV Z<|mV (v:=J U M) Z ?_;refine mB hg gN Z Z O (λh1=>?_)<|λh1=>?_;·refine mn<|cT Z<|sO<|mV Z<|Ai hg gN Z<|mn<|iL ?_;exact⟨_,_,⟨Z,0,0,Z,Y,Y,Y,Y⟩,A4 O Z hb 100 Z Z⟩
  ·have hM0:0<M:=by grind
   refine mn<|cF Z<|kM<|sq<|sO<|mV Z<|mI (((k:Nat):Int)-48) Z<|mV Z<|Ai hg gN Z<|mn<|bM ?_;refine jT (σ:=ME) (τ:=ME) (λ⟨M,E⟩=>⟨.al [(0,aP 2 0),(6,aP 3 0),(7,aP 4 0)],[o0,o1,C 229 (nb b l m) false,C 54 z5L false,C 54 [J U<|((M:Nat):Int),J U<|E] false],61⟩) (λ⟨M,E⟩=>0<M∧M<1000000000000000∧-9≤E∧E≤9) (λ⟨M,E⟩=>(9-E).toNat) ⟨M,((k:Nat):Int)-48⟩ 2 (λ⟨M,E⟩=>⟨.al [(0,aP 2 0),(6,aP 3 0),(7,aP 4 0)],[o0,o1,C 229 (nb b l m) false,C 54 z5L false,C 54 [J U<|((M:Nat):Int),J U<|E] false],61⟩) (λ⟨M,E⟩=>M<1000000000000000∧-9≤E∧E≤9) (Ap Z Z<|sbC Z<|sbC Z<|sbC Z<|sbN) ⟨hM0,hM,Y,Y⟩ ?_ ?_
   ·rintro⟨M,E⟩ ⟨hM0,hM,hE0,hE⟩;have hM0:0<M:=hM0;have hM:M<1000000000000000:=hM;have hE0:-9≤E:=hE0;have hE:E≤9:=hE;refine sq<|sO<|m2 Z Z<|mKv hg gN (v:=J U (M%10:Nat)) Z Z (by simp_all[Ah]) (congrArg (J U)<|UW M) ?_;by_cases hm:M%10=0
    ·refine mBk hg gN (c:=true) Z Z (by rw[hm];rfl)<|m3 Z Z Z ?_;by_cases he:E<9;·refine mT Z<|x1 Z<|cT Z<|kM<|sq<|bM<|oM<|m2 Z Z<|mKv hg gN (v:=J U (M/10:Nat)) Z Z (by simp_all[Ah]) (by grind[Bw])<|mV Z<|Ai hg gN Z<|mn<|oM<|m2 Z Z<|mI (E+1) Z<|mV Z<|Ai hg gN Z<|mn ?_;exact⟨⟨M/10,E+1⟩,⟨Y,Y,Y,Y⟩,(by grind),Ap Z Z<|sbC Z<|sbC Z<|sbC Z<|sbN⟩
     ·refine mF Z<|x1 Z<|cF Z<|iN ?_;exact .inl ⟨Z,⟨M,E⟩,⟨hM,hE0,hE⟩,Ap Z Z<|sbC Z<|sbC Z<|sbC Z<|sbN⟩
    ·refine mF Z<|mV Z<|mG<|mG<|mG<|x1 Z<|cF Z<|iN ?_;exact .inl ⟨Z,⟨M,E⟩,⟨hM,hE0,hE⟩,Ap Z Z<|sbC Z<|sbC Z<|sbC Z<|sbN⟩
   ·rintro⟨M,E⟩ s' hJ hs;have hM:M<1000000000000000:=hJ.1;have hE0:-9≤E:=hJ.2.1;have hE:E≤9:=hJ.2.2;refine jU hs ?_;refine sq<|sO<|mV Z<|mV (v:=aP 2 0) (Im Z Z)<|mV (v:=aP 2 0) (Gv Z Z)<|mV (v:=I b) (loadNb Z Z)<|mn ?_;refine kP hg Z (λh2=>?_)<|λh2=>?_;·refine oM<|m2 Z Z<|mI (-((M:Nat):Int)) Z<|mV Z<|Ai hg gN Z<|mn<|sO<|mV Z<|Ai hg gN Z<|mn<|iL ?_;exact⟨_,_,⟨Z,_,E,Z,Y,Y,Y,Y⟩,A4 O Z hb 100 Z Z⟩
    ·refine kM<|sO<|mV Z<|Ai hg gN Z<|mn<|iL ?_;exact⟨_,_,⟨Z,_,E,Z,Y,Y,Y,Y⟩,A4 O Z hb 100 Z Z⟩
theorem wu64 {x y:Int}(h1:0≤x)(h2:x<18446744073709551616)(h:x=y):J .u64 (IntKind.u64.wrap x)=J .u64 y:=by grind[jX]
def Ek :Nat→List Int→Nat→Nat→List Int
 |0,l,_,_=>l|f+1,l,k,n=>if n=0 then l else Ek f (l.set k ((n%10:Nat):Int)) (k+1) (n/10)
theorem M6 :∀(f:Nat) (l:List Int) (k n:Nat),N (Ek f l k n)=N l
 |0,_,_,_=>rfl
 |f+1,l,k,n=>by
  unfold Ek;split;·rfl
  ·rw[M6 f,List.length_set]
theorem div64P (hg:hGr W0 G){n:Nat}(hn:n<18446744073709551616):cP W0 271 [J .u64 0,J .u64 n,J .u64 10] [] (aU [J .u64 (n/10:Nat),J .u64 (n%10:Nat)]) []:=by refine goM 271 135 ?_;refine sO<|x2 Z Z<|sq<|sO<|mV Z<|mBk hg gN (c:=false) Z Z Z<|mn<|cF Z<|kM<|sq<|sO<|m2 Z Z<|mBk hg gN (c:=false) Z Z Z<|mn<|cF Z<|kM<|sq<|sO<|mV Z<|mBk hg gN (c:=true) Z Z Z<|mn<|cT Z<|sq ?_;refine iV hg ?_;refine qV Z<|qV Z<|qKv (v:=J .u64 (n/10:Nat)) Z Z (by simp_all[Ah]) (by grind[wu64])<|qV Z<|qV Z<|qKv (v:=J .u64 (n%10:Nat)) Z Z (by simp_all[Ah]) (congrArg (J .u64)<|UW n)<|qV Z<|qV Z<|Dx<|?_;exact iL<|pS
theorem absP (hg:hGr W0 G){x:Int}(h1:-1000000000000000<x)(h2:x<1000000000000000):cP W0 234 [J U x] [] (J .u64 x.natAbs) []:=by
 refine goM 234 10 ?_;refine sO<|x1 Z<|sq<|sO<|mV Z ?_;refine mB hg gN Z Z O (λh1=>?_)<|λh1=>?_;·have hx:x<0:=of_decide_eq_true h1;refine mn<|cT Z<|sO<|mV Z<|mK (v:=J .u64<|x+18446744073709551616) Z (by grind[jX])<|mK (v:=J .u64 x.natAbs) Z (by grind[jX])<|x1 Z ?_;exact iL<|pS
 ·have hx:¬x<0:=of_decide_eq_false h1;refine mn<|cF Z<|kM<|sO<|mV Z<|mK (v:=J .u64 x.natAbs) Z (wu64 Y Y Y)<|x1 Z ?_;exact iL<|pS
structure FD where
 f:Nat
 l:List Int
 k:Nat
 n:Nat
theorem nbW {b m b' m':Bool}{l l':List Int}(h:N l=96∧N l'=96:=by simp):(Nat.beq (aG<|nb b l m).cells.length 98&&Nat.ble (0+98) (N<|nb b' l' m')&&(aG<|nb b l m).cells.all AVal.one)=true:=by
 have h1:(aG<|nb b l m).cells.length=98:=by show N (nb b l m)=98;rw[G3,h.1]
 have h2:N (nb b' l' m')=98:=by rw[G3,h.2]
 rw[h1,h2,show(aG<|nb b l m).cells=nb b l m from rfl,nb_one];rfl
theorem CP {b m b' m':Bool}{l l':List Int}(h:N l=96)(h':N l'=96):spl (nb b' l' m') 0 (aG<|nb b l m).cells=nb b l m:=by show(nb b' l' m').take 0++(nb b l m++(nb b' l' m').drop (0+N (nb b l m)))=_;grind[G3]
theorem rvN {b m:Bool}{l:List Int}{e:List (Nat×AVal)}{H:Hz}{n a i:Nat}{T:TypeId}(hl:N l=96)(he:lk a e=some (aP i 0))(ho:H[i]?=some (C T (nb b l m) false)):If ⟨.al e,H,n⟩ [.cell a 98 true]=some [aG<|nb b l m]:=by
 have h:(Env.al e).get a=some (aP i 0):=he;have h1:((nb b l m).drop 0).take 98=nb b l m:=by simp_all[List.take_of_length_le,G3]
 simp_all[If,JX,Jf,C3,G3]
theorem ofP (hg:hGr W0 G){b:Bool}{e:Int}{n0 k0:Nat}(he:-9≤e∧e≤9)(hk0:((k0:Nat):Int)=48+e)(hn:n0<1000000000000000):cP W0 233 [I b,J .u64 0,J .u64 n0,J U e] [] (aG<|nb b (Ek 16 (fH 96 (0:Int)) k0 n0) false) []:=by
 have hz:=Lm (H:=[C 229 (nb b (Ek 16 (fH 96 (0:Int)) k0 n0) false) false,C 229 (nb b (Ek 16 (fH 96 (0:Int)) k0 n0) false) false]) (n:=0) (aG<|nb b (Ek 16 (fH 96 (0:Int)) k0 n0) false)<|Jn _ _ _
 replace hz:∃m,frz _ 0 m _=some _:=⟨hz.choose,hz.choose_spec _<|bC _⟩
 refine goM 233 40 ?_;refine sO<|mV (v:=aP 0 0) Z<|mn<|sO<|mV Z<|mV (v:=aG<|nb b (fH 96 (0:Int)) false) Z<|mV (v:=aP 1 0) Z<|Ai hg gN (J9 (H':=[C 229 (nb false (fH 96 (0:Int)) false) false,C 229 (nb b (fH 96 (0:Int)) false) false]) Z Z Z Z Z)<|mn<|sq<|sO<|mV Z<|mKs (v:=J U k0) Z (by grind[Bw])<|x1 Z<|bM ?_;refine jT (σ:=FD) (τ:=Unit) (λ⟨f,l,k,n⟩=>⟨.al [(1,J .u64 0),(2,J .u64 n),(8,aP 0 0),(9,aP 1 0),(10,J U k)],[C 229 (nb false (fH 96 (0:Int)) false) false,C 229 (nb b l false) false],40⟩) (λ⟨f,l,k,n⟩=>n<10^f∧k+f≤96∧N l=96∧n<18446744073709551616∧Ek f l k n=Ek 16 (fH 96 (0:Int)) k0 n0) (λ⟨f,l,k,n⟩=>f) ⟨16,(fH 96 (0:Int)),k0,n0⟩ 0 (λ_=>⟨.al [(8,aP 0 0),(9,aP 1 0)],[C 229 (nb false (fH 96 (0:Int)) false) false,C 229 (nb b (Ek 16 (fH 96 (0:Int)) k0 n0) false) false],40⟩) (λ_=>True) (Ap Z Z<|sb4 Z Z Z Z<|(((sbC Z<|sbN)))) ⟨Y,Y,B4,Y,Z⟩ ?_ ?_
 ·rintro⟨f,l,k,n⟩ ⟨hf,hk,hl,hn,he⟩;have hf:n<10^f:=hf;have hk:k+f≤96:=hk;have hl:N l=96:=hl;have hn:n<18446744073709551616:=hn;have he:Ek f l k n=Ek 16 (fH 96 (0:Int)) k0 n0:=he;by_cases h0:n=0
  ·subst h0;have he2:l=Ek 16 (fH 96 (0:Int)) k0 n0:=by rw[←he];cases f<;>simp[Ek]
   refine sq<|sO<|mV Z<|mBk hg gN (c:=false) Z Z Z<|m2 Z Z<|mBk hg (gS Z) (c:=false) Z Z Z<|x1 Z<|cF Z ?_;exact iN<|.inl ⟨Z,(),O,Ap Z (by rw[←he2])<|sbC Z<|sbC Z<|sbN⟩
  ·cases f with|zero=>simp at hf;omega|succ f=>have hm:n%10≤9:=Y;have hdv:n/10<10^f:=Y;refine sq<|sO<|mV Z<|mBk hg gN (c:=false) Z Z Z<|m2 Z Z<|mBk hg (gS Z) (c:=true) Z Z (by simp[h0])<|x1 Z<|cT Z<|kM<|sq<|bM<|sO<|x1 Z<|sO<|mV Z<|mKv hg gN (v:=J .u64 0) Z Z (by simp_all[Ah]) Z<|mV Z<|mKv hg gN (v:=J .u64 0) Z Z (by simp_all[Ah]) Z<|x2 Z Z<|sO<|m2 Z Z<|mC Z (hO Z Z (div64P hg hn) _)<|mV Z<|x4 Z Z Z Z<|oM<|m2 Z Z<|mK (v:=J z8 (n%10:Nat)) Z (congrArg (J z8)<|w8 Y Y)<|mV (v:=aP 1 1) (Gv Z Z)<|Ac hg gN (v:=aP 1<|1+k) (W1 Z Z Z) Z K7<|Ai hg gN (Xt Z Z Z Y Z)<|mn<|oM<|mV Z<|mI ((k+1:Nat):Int) Z<|x1 Z ?_;exact⟨⟨f,l.set k ((n%10:Nat):Int),k+1,n/10⟩,⟨hdv,(Y:k+1+f≤96),(by grind),(Y:n/10<18446744073709551616),(by rw[←he];conv=>rhs;unfold Ek;rw[if_neg h0])⟩,(Nat.lt_succ_self f),Ap Z Z<|sb4 Z Z Z Z<|(((sbC Z<|sbN)))⟩
 ·rintro _ s' hJ hs;refine jU hs ?_;refine sO<|mV (v:=aG<|nb b (Ek 16 (fH 96 (0:Int)) k0 n0) false) (HP Z Z FY)<|Ai hg gN (J9 (H':=[C 229 (nb b (Ek 16 (fH 96 (0:Int)) k0 n0) false) false,C 229 (nb b (Ek 16 (fH 96 (0:Int)) k0 n0) false) false]) Z Z Z (nbW ⟨FY,B4⟩) (by grind[CP,M6]))<|mn ?_;exact iL<|A4 O (rvN FY Z Z) Z hz.choose hz.choose_spec Z
theorem layP (hg:hGr W0 G){M E:Int}{k0:Nat}(hM1:-1000000000000000<M)(hM2:M<1000000000000000)(hE1:-9≤E)(hE2:E≤9)(hk0:((k0:Nat):Int)=48+E):cP W0 171 [aG [J U M,J U E]] [] (aG<|nb (decide<|M<0) (Ek 16 (fH 96 (0:Int)) k0 M.natAbs) false) []:=by
 have hz:=Lm (H:=[C 54 [J U M,J U E] false,C 229 (nb (decide<|M<0) (Ek 16 (fH 96 (0:Int)) k0 M.natAbs) false) false]) (n:=0) (aG<|nb (decide<|M<0) (Ek 16 (fH 96 (0:Int)) k0 M.natAbs) false)<|Jn _ _ _
 replace hz:∃m,frz _ 0 m _=some _:=⟨hz.choose,hz.choose_spec _<|bC _⟩
 refine goM 171 12 ?_;refine sO<|mV (v:=aP 0 0) Z<|mV (v:=aP 1 0) Z<|mn<|sq ?_;refine kH hg ?_;refine Ha Z Z O Z<|Ha Z Z O Z<|Ha Z Z O Z<|Ha Z Z O Z<|Ha Z Z O Z<|V5 Z Z (hO Z Z (absP hg hM1 hM2) _) Z (pdC (cY bY186<|evY Z O)<|pdC (cY (by show jR _ 32 0=true;rfl)<|evY Z O) pdN)<|?_;refine Vn Z Z O Z (ptC (cNp (by simp_all))<|ptC (cYp (by show(aA 0 32|| !(jR _ 0 6))=false;rfl)<|evY Z O) ptN)<|Vn Z Z O Z (ptC (cNp (by simp_all))<|ptC (cYp (by show(aA 0 32|| !(jR _ 0 7))=false;rfl)<|evY Z O) ptN)<|V5 Z Z (hO Z (show blw 0 (aG<|nb (decide<|M<0) (Ek 16 (fH 96 (0:Int)) k0 M.natAbs) false)=true from Jn _ _ _) (ofP hg ⟨hE1,hE2⟩ hk0 Y) _) Z (pdC (cN (by show jR _ 288 1=false;rfl))<|pdC (cN (by show jR _ 288 0=false;rfl)) pdN)<|Wp (J9 (H':=[C 54 [J U M,J U E] false,C 229 (nb (decide<|M<0) (Ek 16 (fH 96 (0:Int)) k0 M.natAbs) false) false]) Z Z Z (nbW (b':=false) (l':=(fH 96 (0:Int))) (m':=false) ⟨FY,B4⟩) (by show[C 54 [J U M,J U E] false,C 229 (spl (nb false (fH 96 (0:Int)) false) 0 (aG<|nb (decide<|M<0) (Ek 16 (fH 96 (0:Int)) k0 M.natAbs) false).cells) false]=_;grind[CP,M6])) Z (pdC (cN (by show jR _ 800 1=false;rfl))<|pdC (cN (by show jR _ 800 0=false;rfl)) pdN)<|MK Z<|?_;exact iL<|A4 O (rvN FY Z Z) Z hz.choose hz.choose_spec Z
theorem TM (hg:hGr W0 G){b m:Bool}{l:List Int}(hl:N l=96)(hd:Dg9 l)(hz:Hi0 l):I8 gH W0 170 [aG<|nb b l m] [] (λv X=>X=[]∧∃M E e:Int,v=aU [aG [J U M,J U E],J U e]∧-1000000000000000<M∧M<1000000000000000∧-9≤E∧E≤9):=by
 refine goQ 170 43 ?_;refine iO<|iM hg<|Ac hg gN (v:=aP 0 0) Z Z O<|Ac hg gN (v:=aP 1 0) Z Z O<|Ac hg gN Z Z O<|Bg<|iO<|iO<|iM hg<|Ac hg gN Z Z O<|Bg<|jK ?_;refine jT (σ:=Nat) (τ:=Unit) (λn=>⟨.al [(1,aP 0 0),(2,aP 1 0),(4,J U<|((n:Nat):Int)-9)],[C 229 (nb b l m) false,C 54 z5L false],43⟩) (λn=>n≤19) (λn=>19-n) 0 0 (λ_=>⟨.al [(2,aP 1 0)],[C 229 (nb b l m) false,C 54 z5L false],43⟩) (λ_=>True) (Ap Z Z<|sbC Z<|sbC Z<|sbC Z<|sbN) (hZ _) ?_ ?_
 ·rintro n hn;have hn:n≤19:=hn;refine sq<|sO<|mV Z ?_;by_cases hlt:n<19
  ·refine mT Z<|mn<|cT Z<|kM<|sq<|bM<|sO<|mV Z<|mI ((38+n+1:Nat):Int) Z<|x1 Z<|sO<|mV (v:=aG<|nb b l m) (HP Z Z hl)<|mV (v:=aP 2 0) Z<|Ai hg gN (J9 (H':=[C 229 (nb b l m) false,C 54 z5L false,C 229 (nb b l m) false]) Z Z Z (nbW (b':=false) (l':=(fH 96 (0:Int))) (m':=false) ⟨hl,B4⟩) (by show[C 229 (nb b l m) false,C 54 z5L false,C 229 (spl (nb false (fH 96 (0:Int)) false) 0 (aG<|nb b l m).cells) false]=_;grind[CP]))<|mn<|sO<|mV Z<|Ln hg gN Z Z (restQ (id:=2) (H:=[C 229 (nb b l m) false,C 54 z5L false,C 229 (nb b l m) false]) (j:=38+n) hg Z hl Y) ?_;rintro _ _ ⟨rfl,r,rfl⟩;refine x1 Z<|sO<|m2 Z Z ?_;refine mB hg gN Z Z O (λh1=>?_) (λh1=>?_)
   ·refine mV Z<|mG<|mG<|mG<|mGT hg Z Z<|mGT hg Z Z<|mGT hg Z Z<|mGT hg Z Z<|mGT hg Z Z<|mGT hg Z Z<|mG<|mV Z<|Ln hg gN Z Z (cutQ (id:=2) (H:=[C 229 (nb b l m) false,C 54 z5L false,C 229 (nb b l m) false]) (k:=38+n+1) hg Z hl hd hz Y _) ?_;rintro _ _ ⟨l',rfl,rfl,hl',hd'⟩;refine mn<|sO ?_;refine Ln hg gN Z Z (topQ (id:=2) (H:=[C 229 (nb b l m) false,C 54 z5L false,C 229 (nb b l' false) false]) hg Z hl') ?_;rintro _ _ ⟨rfl,t,rfl,ht0,ht1⟩;refine x1 Z<|sO<|m2 Z Z<|mKs (v:=J U<|((38+n+1:Nat):Int)+15) Z (Bw Y Y Z) ?_;refine mB hg gN Z Z O (λh2=>?_)<|λh2=>?_;·have hT:=h2;refine mn<|cT Z<|sO<|m2 Z Z<|Ln hg gN Z Z (HO (k:=38+n+1) hg hl' hd' ⟨Y,Y⟩ ht0 ht1 (of_decide_eq_true hT) (by show cond (A8 3<|nb b l m) (cond true (cond (A8 3<|nb b l' false) true false) false) false=true;grind[Jn])) ?_;rintro _ _ ⟨rfl,M,E,rfl,q1,q2,q3,q4⟩;refine Ai hg gN Z<|x1 Z ?_;refine iL ?_;refine .inr ?_;exact⟨_,_,⟨Z,M,E,_,Z,q1,q2,q3,q4⟩,A4 O Z Z 100 Z Z⟩
    ·refine mn<|cF Z<|kM<|oM<|mFz (s1:=⟨.al [(1,aP 0 0),(2,aP 1 0),(4,J U<|((n:Nat):Int)-9)],[C 229 (nb b l m) false,C 54 z5L false],43⟩) (As 2 Z (hZ _) Z bY87<|fzC Z (fvP V)<|fzC Z (fvP V)<|fI fzN)<|mV Z<|mI (((n+1:Nat):Int)-9) Z<|x1 Z ?_;exact⟨(n+1),(Y:n+1≤19),Y,Ap Z Z<|sbC Z<|sbC Z<|sbC Z<|sbN⟩
   ·refine m2 Z Z ?_;refine mB hg (gS Z) Z Z O (λh3=>?_) (λh3=>?_)
    ·refine m2 Z Z<|mV (v:=aP 2 1) (Gv Z Z)<|Ac hg (gS Z) (v:=aP 2<|1+(38+n+1)) (W1 Z Z Z) Z K7<|mV (v:=J z8<|l.getD (38+n+1) 0) (Wq Z Z Y)<|Ac hg (gS Z) Z Z (by simp_all[Ah])<|m3 Z Z Z<|Ln hg gN Z Z (cutQ (id:=2) (H:=[C 229 (nb b l m) false,C 54 z5L false,C 229 (nb b l m) false]) (k:=38+n+1) hg Z hl hd hz Y _) ?_;rintro _ _ ⟨l',rfl,rfl,hl',hd'⟩;refine mn<|sO ?_;refine Ln hg gN Z Z (topQ (id:=2) (H:=[C 229 (nb b l m) false,C 54 z5L false,C 229 (nb b l' false) false]) hg Z hl') ?_;rintro _ _ ⟨rfl,t,rfl,ht0,ht1⟩;refine x1 Z<|sO<|m2 Z Z<|mKs (v:=J U<|((38+n+1:Nat):Int)+15) Z (Bw Y Y Z) ?_;refine mB hg gN Z Z O (λh4=>?_)<|λh4=>?_;·have hT:=h4;refine mn<|cT Z<|sO<|m2 Z Z<|Ln hg gN Z Z (HO (k:=38+n+1) hg hl' hd' ⟨Y,Y⟩ ht0 ht1 (of_decide_eq_true hT) (by show cond (A8 3<|nb b l m) (cond true (cond (A8 3<|nb b l' false) true false) false) false=true;grind[Jn])) ?_;rintro _ _ ⟨rfl,M,E,rfl,q1,q2,q3,q4⟩;refine Ai hg gN Z<|x1 Z ?_;refine iL ?_;refine .inr ?_;exact⟨_,_,⟨Z,M,E,_,Z,q1,q2,q3,q4⟩,A4 O Z Z 100 Z Z⟩
     ·refine mn<|cF Z<|kM<|oM<|mFz (s1:=⟨.al [(1,aP 0 0),(2,aP 1 0),(4,J U<|((n:Nat):Int)-9)],[C 229 (nb b l m) false,C 54 z5L false],43⟩) (As 2 Z (hZ _) Z bY87<|fzC Z (fvP V)<|fzC Z (fvP V)<|fI fzN)<|mV Z<|mI (((n+1:Nat):Int)-9) Z<|x1 Z ?_;exact⟨(n+1),(Y:n+1≤19),Y,Ap Z Z<|sbC Z<|sbC Z<|sbC Z<|sbN⟩
    ·refine mV Z<|mG<|mG<|mG<|mG<|mG<|mG<|m2 Z Z<|Ln hg gN Z Z (cutQ (id:=2) (H:=[C 229 (nb b l m) false,C 54 z5L false,C 229 (nb b l m) false]) (k:=38+n+1) hg Z hl hd hz Y _) ?_;rintro _ _ ⟨l',rfl,rfl,hl',hd'⟩;refine mn<|sO ?_;refine Ln hg gN Z Z (topQ (id:=2) (H:=[C 229 (nb b l m) false,C 54 z5L false,C 229 (nb b l' false) false]) hg Z hl') ?_;rintro _ _ ⟨rfl,t,rfl,ht0,ht1⟩;refine x1 Z<|sO<|m2 Z Z<|mKs (v:=J U<|((38+n+1:Nat):Int)+15) Z (Bw Y Y Z) ?_;refine mB hg gN Z Z O (λh5=>?_)<|λh5=>?_;·have hT:=h5;refine mn<|cT Z<|sO<|m2 Z Z<|Ln hg gN Z Z (HO (k:=38+n+1) hg hl' hd' ⟨Y,Y⟩ ht0 ht1 (of_decide_eq_true hT) (by show cond (A8 3<|nb b l m) (cond true (cond (A8 3<|nb b l' false) true false) false) false=true;grind[Jn])) ?_;rintro _ _ ⟨rfl,M,E,rfl,q1,q2,q3,q4⟩;refine Ai hg gN Z<|x1 Z ?_;refine iL ?_;refine .inr ?_;exact⟨_,_,⟨Z,M,E,_,Z,q1,q2,q3,q4⟩,A4 O Z Z 100 Z Z⟩
     ·refine mn<|cF Z<|kM<|oM<|mFz (s1:=⟨.al [(1,aP 0 0),(2,aP 1 0),(4,J U<|((n:Nat):Int)-9)],[C 229 (nb b l m) false,C 54 z5L false],43⟩) (As 2 Z (hZ _) Z bY87<|fzC Z (fvP V)<|fzC Z (fvP V)<|fI fzN)<|mV Z<|mI (((n+1:Nat):Int)-9) Z<|x1 Z ?_;exact⟨(n+1),(Y:n+1≤19),Y,Ap Z Z<|sbC Z<|sbC Z<|sbC Z<|sbN⟩
  ·refine mF Z<|mn<|cF Z<|iN ?_;exact .inl ⟨Z,(),O,Ap Z Z<|sbC Z<|sbN⟩
 ·rintro _ s' hJ hs;refine jU hs ?_;refine sO<|mV Z<|Ai hg gN Z<|x1 Z ?_;exact iL ⟨_,_,⟨Z,0,0,_,Z,V,V,V,V⟩,A4 O Z Z 100 Z Z⟩
def EZ (x y:Int):Int:=if x<y then-1 else if y<x then 1 else 0
def ordI (a b:PCl):Int:=if EZ a.r b.r=0 then EZ a.c b.c else EZ a.r b.r
theorem ordI_lt {a b:PCl}(h:a.r<b.r∨a.r=b.r∧a.c<b.c):ordI a b=-1:=by unfold ordI EZ;omega
theorem nanP (hg:hGr W0 G){x:Int}:cP W0 121 [J U x] [] (I false) []:=by refine goM 121 6 ?_;refine sO<|x1 Z<|sO<|x4 Z Z Z Z ?_;exact iL<|A6 O Z (congrArg I B4) Z
theorem cmpP (hg:hGr W0 G){x y:Int}:cP W0 75 [J U x,J U y] [] (J U<|EZ x y) []:=by
 refine goM 75 20 ?_;refine sO<|x1 Z<|sO<|mV Z<|Hv hg gN (c:=false) Z Z (nanP hg) Z<|x1 Z<|sO<|mV Z<|Hv hg gN (c:=false) Z Z (nanP hg) Z<|x1 Z<|sq<|sO<|x1 Z<|cF Z<|kM<|sq<|sO<|x1 Z<|cF Z<|kM<|sq<|sO<|m2 Z Z ?_;refine mB hg gN Z Z O (λh1=>?_)<|λh1=>?_;·refine mn<|cT Z<|sO<|x1 Z ?_;exact iL<|A6 O Z (congrArg (J U) (by simp[EZ,of_decide_eq_true h1])) Z
 ·refine mn<|cF Z<|kM<|sq<|sO<|m2 Z Z ?_;refine mB hg gN Z Z O (λh2=>?_)<|λh2=>?_;·refine mn<|cT Z<|sO<|x1 Z ?_;exact iL (A6 O Z (congrArg (J U) (by simp_all[EZ])) Z)
  ·refine mn<|cF Z<|kM<|sO<|x1 Z ?_;exact iL<|A6 O Z (congrArg (J U) (by simp_all[EZ,if_neg])) Z
theorem orP (hg:hGr W0 G){o0 o1:HObj}{a b:Int}:cP W0 74 [aH 1 2 0 2<|some 2] [o0,o1,C 3 [J U a,J U b] false] (J U (if a=0 then b else a)) [o0,o1,C 3 [J U a,J U b] false]:=by
 refine goM 74 18 ?_;refine sO<|x1 Z<|sO<|x1 Z<|sq<|sO<|x3 Z Z Z<|bM ?_;refine ExM.unroll 3 ?_;refine Nh.step ?_;refine sO<|mBk hg gN (c:=true) Z Z Z<|mn<|sq<|cT Z<|kM<|sq<|bM<|sO<|mS Z<|x2 Z Z<|sO<|m2 Z Z ?_;refine mB hg gN Z Z O (λh1=>?_)<|λh1=>?_;·refine mn<|cT Z<|sO<|x2 Z Z ?_;exact iL<|A6 O Z (congrArg (J U) (by grind)) Z
 ·refine mn<|cF Z<|kM<|oM<|mKs (v:=J U 1) Z Z<|x1 Z ?_;refine Nh.step ?_;refine sO<|mBk hg gN (c:=true) Z Z Z<|mn<|sq<|cT Z<|kM<|sq<|bM<|sO<|mS Z<|x2 Z Z<|sO<|m2 Z Z ?_;refine mB hg gN Z Z O (λh2=>?_)<|λh2=>?_;·refine mn<|cT Z<|sO<|x2 Z Z ?_;exact iL (A6 O Z (congrArg (J U) (by grind)) Z)
  ·refine mn<|cF Z<|kM<|oM<|mKs (v:=J U 2) Z Z<|x1 Z ?_;refine Nh.step ?_;refine sO<|mBk hg gN (c:=false) Z Z Z<|mn<|sq<|cF Z ?_;refine iN ?_;refine sO<|x2 Z Z ?_;exact iL<|A6 O Z (congrArg (J U) (by grind)) Z
theorem orderP (hg:hGr W0 G){a b:PCl}:cP W0 42 [pcV a,pcV b] [] (J U<|ordI a b) []:=by refine goM 42 17 ?_;refine sO<|mV (v:=aP 0 0) Z<|mV (v:=aP 1 0) Z<|x1 Z<|sq ?_;refine kH hg ?_;refine Ha Z Z O Z<|Ha Z Z O Z<|Ha Z Z O Z<|Ha Z Z O Z<|V5 Z Z (hO Z Z (cmpP hg) _) Z pdN<|Vn Z Z O Z (ptC (cNp (by simp_all))<|ptC (cYp (by show(aA 0 16|| !(jR _ 0 5))=false;rfl)<|evY Z O) ptN)<|?_;refine Vn Z Z O Z (ptC (cNp (by simp_all))<|ptC (cYp (by show(aA 0 16|| !(jR _ 0 6))=false;rfl)<|evY Z O) ptN)<|Vn Z Z O Z (ptC (cNp (by simp_all))<|ptC (cYp (by show(aA 0 16|| !(jR _ 0 7))=false;rfl)<|evY Z O) ptN)<|Vn Z Z O Z (ptC (cNp (by simp_all))<|ptC (cYp (by show(aA 0 16|| !(jR _ 0 8))=false;rfl)<|evY Z O) ptN)<|V5 Z Z (hO Z Z (cmpP hg) _) Z pdN<|Rl (v:=aH 1 2 0 2<|some 2) Z Z O Z pdN<|V5 Z Z (orP hg) Z pdN<|?_;refine Ha Z Z O Z<|MK Z<|?_;exact iL<|pL
theorem lTrim {H:Hz}{s cs:Bz}(hs:N s≤1000000)(hcs:N cs≤1000)(ha:cs.all (λb=>decide<|b.toNat<128)=true):cP W0 130 [S s,S cs] H (S<|Lib.trimS s cs) H:=by refine A5.of_below Ar λF bs w cargs hh hra=>?_;obtain⟨a,b,rfl,h1,h2⟩:=Pi hra;obtain rfl:=Kz h1;obtain rfl:=Kz h2;refine(Any.strings_Trim_laid Tryz.lays160 Ar ⟨s.toArray⟩ ⟨cs.toArray⟩ w (by rw[Qa];omega) (by rw[Qa];omega)<|ascii_of_all Y).mono ?_;simp_all[Qq]
def digs :Bz:=[48,49,50,51,52,53,54,55,56,57]
theorem Zy {p:UInt8→Bool}:∀{l:Bz},l.dropWhile p=[]→∀b∈l,p b=true
 | [],_,b,h=>Hq
 |c::r,h,b,hb=>by
  rw[kG]at h;cases hp:p c with
  |false=>rw[hp]at h;simp at h
  |true=>
   rw[hp]at h;rcases eS.1 hb with rfl|hb;·exact hp
   ·exact Zy (by grind) b hb
theorem AK {p:UInt8→Bool}:∀{l:Bz}{b:UInt8},b∈l→p b=true∨b∈l.dropWhile p
 |c::r,b,hb=>by
  rw[kG];cases hp:p c with
  |false=>exact .inr (by grind)
  |true=>
   rcases eS.1 hb with rfl|hb;·grind
   ·simpa using AK hb
theorem OC {s:Bz}(h:Lib.trimS s digs=[]):∀b∈s,digs.contains b=true:=λb hb=>by
 rcases AK (p:=(digs.contains ·)) (List.mem_reverse.2 hb)with h1|h1;·exact h1
 ·exact Zy (p:=(digs.contains ·)) h b (by grind[Lib.trimRightS])
theorem dig_bd {b:UInt8}(h:digs.contains b=true):48≤b.toNat∧b.toNat≤57:=by
 have:b∈digs:=by grind
 simp only[digs,eS,List.not_mem_nil,or_false]at this;rcases this with rfl|rfl|rfl|rfl|rfl|rfl|rfl|rfl|rfl|rfl<;>decide
def FG (s:Bz):Prop:=N s≤40∧∀i,i<N s→48≤(s.getD i 0).toNat∧(s.getD i 0).toNat≤57
theorem fgOf {s:Bz}(h:((N s:Nat):Int)≤40){b:Bool}(hb:b=true)(he:b=(Lib.trimS s digs==[]):=by rfl):FG s:=by
 subst hb;have h2:Lib.trimS s digs=[]:=by grind
 refine⟨Y,λi hi=>?_⟩;grind[dig_bd,OC]
theorem dfigE (hg:hGr W0 G){s:Bz}(hl:N s≤1000000):Aw gH W0 169 [S s] (λv=>∃b,v=I b∧(b=true→FG s)):=by
 refine goE 169 16 ?_;refine sO<|x1 Z<|sO<|m2 Z Z ?_;refine mB hg gN Z Z O (λh1=>?_)<|λh1=>?_
 ·refine m3 Z Z Z ?_;refine mB hg (gS Z) Z Z O (λh2=>?_)<|λh2=>?_;·have h40:=of_decide_eq_true h2;refine m3 Z Z Z<|mC Z (lTrim hl V V)<|x3 Z Z Z ?_;exact iL ⟨_,⟨_,Z,λh=>fgOf h40 h⟩,A6 O Z Z Z⟩
  ·refine m2 Z Z<|mG<|mG<|mG<|x2 Z Z ?_;exact iL ⟨_,⟨_,rfl,λh=>by cases h⟩,A6 trivial rfl rfl rfl⟩
 ·refine mV Z<|mG<|mG<|mG<|m2 Z Z<|mG<|mG<|mG<|x2 Z Z ?_;exact iL ⟨_,⟨_,rfl,λh=>by cases h⟩,A6 trivial rfl rfl rfl⟩
def MF96 :AFn:=⟨(sQ [yV 2<|.alloc 54 z5L,yV 3<|.move<|vI 0]<|sQ [yM 16 0,yV 17<|kF 109 [16,(.val<|S [45])],yM 15 17,yV 18<|.extract 15 0,yV 19<|.extract 15 1,yM 4 18,yM 5 19]<|sQ [yM 21 4,yV 22<|kF 168 [21,(.val<|S [46])],yM 20 22,yV 23<|.extract 20 0,yV 24<|.extract 20 1,yV 25<|.extract 20 2,yM 6 23,yM 7 24,yM 8 25]<|.seq (sQ [yM 26 6,yV 27<|kF 169 [26],yV 28<|.un .not 27,yM 29 28,yF 30 29<|.move 8,yF 31 29<|.move 30,yT 32 31<|.move 7,yT 33 31<|kF 169 [32],yT 34 31<|.un .not 33,yF 35 29<|.pick 31 34<|.val<|I false,yV 36<|.pick 29 (.val<|I true) 35]<|.cond 36 (sQ [yV 37<|.build z5L [],yN<|.store 2 2 37,yV 3<|.move<|vI 12] .ret) .skip)<|sQ [yM 38 5,yV 39<|.build z0L [(0,1,38)],yV 9<|.alloc 229 z0L,yN<|.store 98 9 39]<|.seq (sQ [yM 40 6,yV 41<|.len true 40,yV 42<|.move<|vI 0]<|.block 0<|.loop<|sQ [yV 43<|.bin .lss none 42 41]<|.seq (.cond 43 .skip<|.exit 0)<|.seq (.block 1<|sQ [yM 44 42,yM 10 44]<|.ops [yM 45 10,yV 46<|.bin .add none (vI 48) 45,yM 47 6,yM 48 6,yV 49<|.len true 48,yV 50<|.bin .sub none 49<|vI 1,yM 51 10,yV 52<|.bin .sub none 50 51,yV 53<|.idxStr 47 52,yV 54<|.bin .sub none 53<|.val<|J .u8 48,yV 55<|.conv (.int z8) 54,yV 56<|.fieldAddr 1 9,yV 57<|.idxArr 96 1 56 46,yN<|.store 1 57 55])<|.ops [yV 58<|.bin .add none 42<|vI 1,yM 42 58])<|.seq (sQ [yM 59 7,yV 60<|.len true 59,yV 61<|.move<|vI 0]<|.block 2<|.loop<|sQ [yV 62<|.bin .lss none 61 60]<|.seq (.cond 62 .skip<|.exit 2)<|.seq (.block 3<|sQ [yM 63 61,yM 11 63]<|.ops [yM 64 11,yV 65<|.bin .sub none (vI 47) 64,yM 66 7,yM 67 11,yV 68<|.idxStr 66 67,yV 69<|.bin .sub none 68<|.val<|J .u8 48,yV 70<|.conv (.int z8) 69,yV 71<|.fieldAddr 1 9,yV 72<|.idxArr 96 1 71 65,yN<|.store 1 72 70])<|.ops [yV 73<|.bin .add none 61<|vI 1,yM 61 73])<|sQ [yV 75<|.load 98 true 9,yV 76<|kF 170 [75],yM 74 76,yV 77<|.extract 74 0,yV 78<|.extract 74 1,yV 12<|.alloc 54 z5L,yN<|.store 2 12 77,yM 13 78]<|.seq (sQ [yV 79<|.load 2 true 12,yV 80<|kF 171 [79],yV 14<|.alloc 229 z0L,yN<|.store 98 14 80]<|sQ [yM 81 13,yV 82<|.bin .neq none 81<|vI 0,yM 83 82,yF 84 83<|.fieldAddr 1 14,yF 85 83<|.load 96 true 84,yF 86 83<|.fieldAddr 1 9,yF 87 83<|.load 96 true 86,yF 88 83<|.eqs true (.cons 0 1 false .i<|.cons 1 1 false .i<|.cons 2 1 false .i<|.cons 3 1 false .i<|.cons 4 1 false .i<|.cons 5 1 false .i<|.cons 6 1 false .i<|.cons 7 1 false .i<|.cons 8 1 false .i<|.cons 9 1 false .i<|.cons 10 1 false .i<|.cons 11 1 false .i<|.cons 12 1 false .i<|.cons 13 1 false .i<|.cons 14 1 false .i<|.cons 15 1 false .i<|.cons 16 1 false .i<|.cons 17 1 false .i<|.cons 18 1 false .i<|.cons 19 1 false .i<|.cons 20 1 false .i<|.cons 21 1 false .i<|.cons 22 1 false .i<|.cons 23 1 false .i<|.cons 24 1 false .i<|.cons 25 1 false .i<|.cons 26 1 false .i<|.cons 27 1 false .i<|.cons 28 1 false .i<|.cons 29 1 false .i<|.cons 30 1 false .i<|.cons 31 1 false .i<|.cons 32 1 false .i<|.cons 33 1 false .i<|.cons 34 1 false .i<|.cons 35 1 false .i<|.cons 36 1 false .i<|.cons 37 1 false .i<|.cons 38 1 false .i<|.cons 39 1 false .i<|.cons 40 1 false .i<|.cons 41 1 false .i<|.cons 42 1 false .i<|.cons 43 1 false .i<|.cons 44 1 false .i<|.cons 45 1 false .i<|.cons 46 1 false .i<|.cons 47 1 false .i<|.cons 48 1 false .i<|.cons 49 1 false .i<|.cons 50 1 false .i<|.cons 51 1 false .i<|.cons 52 1 false .i<|.cons 53 1 false .i<|.cons 54 1 false .i<|.cons 55 1 false .i<|.cons 56 1 false .i<|.cons 57 1 false .i<|.cons 58 1 false .i<|.cons 59 1 false .i<|.cons 60 1 false .i<|.cons 61 1 false .i<|.cons 62 1 false .i<|.cons 63 1 false .i<|.cons 64 1 false .i<|.cons 65 1 false .i<|.cons 66 1 false .i<|.cons 67 1 false .i<|.cons 68 1 false .i<|.cons 69 1 false .i<|.cons 70 1 false .i<|.cons 71 1 false .i<|.cons 72 1 false .i<|.cons 73 1 false .i<|.cons 74 1 false .i<|.cons 75 1 false .i<|.cons 76 1 false .i<|.cons 77 1 false .i<|.cons 78 1 false .i<|.cons 79 1 false .i<|.cons 80 1 false .i<|.cons 81 1 false .i<|.cons 82 1 false .i<|.cons 83 1 false .i<|.cons 84 1 false .i<|.cons 85 1 false .i<|.cons 86 1 false .i<|.cons 87 1 false .i<|.cons 88 1 false .i<|.cons 89 1 false .i<|.cons 90 1 false .i<|.cons 91 1 false .i<|.cons 92 1 false .i<|.cons 93 1 false .i<|.cons 94 1 false .i<|.cons 95 1 false .i .nil) 85 87,yV 89<|.pick 83 (.val<|I true) 88]<|.cond 89 (sQ [yV 90<|.build z5L [],yN<|.store 2 2 90,yV 3<|.move<|vI 10] .ret) .skip)<|sQ [yV 91<|.load 2 true 12,yN<|.store 2 2 91,yV 3<|.move<|vI 0] .ret),[.cell 2 2 true,3],92⟩
theorem MG96 :Gs gH 111=some MF96:=Ar
structure KC where
 k:Nat
 c:List Int
theorem dgZ :Dg9 (fH 96 (0:Int)):=λn=>by grind
theorem hiZ :Hi0 (fH 96 (0:Int)):=λn _=>by grind
theorem oEqs {s:St}{e:EP}{x y:AOpd}{a b:AVal}{r:Bool}(hx:ev G s x=some a)(hy:ev G s y=some b)(h:aeq e a b=some r):aop G s (.eqs true e x y)=some (.val (I<|cond true (not r) r) s.H []):=by grind[aop]
theorem fgNil {t w p:Bz}{has:Bool}(hc:iB t [46]=(w,p,has))(h:has=false):FG p:=by
 subst h;unfold iB at hc;split at hc;·grind
 ·injection hc with _ h2;injection h2 with h3 _;subst h3;exact⟨V,λi hi=>by simp at hi⟩
theorem KD {t w p:Bz}{has:Bool}(hc:iB t [46]=(w,p,has)):N w≤N t∧N p≤N t:=by unfold iB at hc;grind
theorem SK (hg:hGr W0 G){b m:Bool}{l:List Int}(hl:N l=96)(hd:Dg9 l)(hz:Hi0 l):Aw gH W0 170 [aG<|nb b l m] (λv=>∃M E e:Int,v=aU [aG [J U M,J U E],J U e]∧-1000000000000000<M∧M<1000000000000000∧-9≤E∧E≤9):=Aw.ofQ<|(TM hg hl hd hz).mono λ_ _ h=>⟨h.2,h.1⟩
theorem decRead (hk:Kn W0)(hg:hGr W0 G){s:Bz}(hs:N s≤200):Aw gH W0 111 [S s] (λv=>∃m e er:Int,v=aU [aG [J U m,J U e],J U er]):=by
 have htl:N (iC s [45])≤200:=by grind[iC]
 obtain⟨w,p,has,hcut⟩:∃w p has,iB (iC s [45]) [46]=(w,p,has):=⟨_,_,_,rfl⟩;have hwl:=(KD hcut).1;have hpl:=(KD hcut).2;have hC:∀{H:Hz},cP W0 168 [S<|iC s [45],S [46]] H (aU [S w,S p,I has]) H:=λ{H}=>by have h:=lCut (H:=H) hk.w (s:=iC s [45]) (t:=[46]) Y;grind
 refine Aw.of_fnM MG96 B4 Z ?_;refine sO<|x2 Z Z<|sO<|mV Z<|mC Z Ii<|mV Z<|mV (v:=S<|iC s [45]) Z<|mV (v:=I<|gJ s [45]) Z<|x2 Z Z<|sO<|mV Z<|mC Z hC<|m3 Z Z Z<|x4 Z Z Z Z ?_;refine ExM.seqJ (λ_:Unit=>⟨.al [(2,aP 0 0),(5,I<|gJ s [45]),(6,S w),(7,S p)],[C 54 z5L false],92⟩) (λ_=>FG w∧FG p) ?_ ?_
 ·refine sO<|mV Z ?_;refine C4 hg gN Z Z Z (dfigE hg Y) ?_ ?_;·rintro _ ⟨b1,rfl,hb1⟩;rfl
  rintro _ ⟨b1,rfl,hb1⟩;refine mB hg gN Z Z O (λh1=>?_)<|λh1=>?_;·refine mV Z<|mG<|mG<|mGT hg Z Z<|mGT hg Z Z<|mGT hg Z Z<|mG<|x1 Z<|cT Z<|sO<|mV Z<|Ai hg gN Z<|x1 Z<|iL ?_;exact⟨_,⟨_,_,_,Z⟩,A4 O Z Z 100 Z Z⟩
  ·have hFw:FG w:=hb1 (by grind);refine m2 Z Z ?_;refine mB hg (gS Z) Z Z O (λh2=>?_) (λh2=>?_)
   ·refine mV Z ?_;refine C4 hg (gS Z) Z Z Z (dfigE hg Y) ?_ ?_;·rintro _ ⟨b2,rfl,hb2⟩;rfl
    rintro _ ⟨b2,rfl,hb2⟩;refine mB hg (gS Z) Z Z O (λh3=>?_)<|λh3=>?_;·refine x2 Z Z<|cT Z<|sO<|mV Z<|Ai hg gN Z<|x1 Z<|iL ?_;exact⟨_,⟨_,_,_,Z⟩,A4 O Z Z 100 Z Z⟩
    ·have hFp:FG p:=hb2 (by grind);refine x2 Z Z<|cF Z<|kM ?_;exact⟨(),⟨hFw,hFp⟩,Ap Z Z<|sb4 Z Z Z Z<|(((sbN)))⟩
   ·have hFp:FG p:=fgNil hcut h2;refine mG<|mG<|mG<|x2 Z Z<|cF Z<|kM ?_;exact⟨(),⟨hFw,hFp⟩,Ap Z Z<|sb4 Z Z Z Z<|(((sbN)))⟩
 ·rintro _ ⟨hFw,hFp⟩;have hcl:N (fH 96 (0:Int))=96:=B4;have hcd:Dg9 (fH 96 (0:Int)):=dgZ;have hcz:Hi0 (fH 96 (0:Int)):=hiZ;have hw40:=hFw.1;have hp40:=hFp.1;refine sO<|mV Z<|mV (v:=aG<|nb (gJ s [45]) (fH 96 (0:Int)) false) Z<|mV (v:=aP 1 0) Z<|Ai hg gN Z<|mn<|sq<|sO<|x3 Z Z Z<|bM ?_;refine jT (σ:=KC) (τ:=Wr) (λ⟨k,c⟩=>⟨.al [(2,aP 0 0),(5,I<|gJ s [45]),(6,S w),(7,S p),(9,aP 1 0),(41,J U<|N w),(42,J U k)],[C 54 z5L false,C 229 (nb (gJ s [45]) (c) false) false],92⟩) (λ⟨k,c⟩=>k≤N w∧N c=96∧Dg9 c∧Hi0 c) (λ⟨k,c⟩=>N w-k) ⟨0,(fH 96 (0:Int))⟩ 0 (λ⟨c⟩=>⟨.al [(2,aP 0 0),(5,I<|gJ s [45]),(6,S w),(7,S p),(9,aP 1 0)],[C 54 z5L false,C 229 (nb (gJ s [45]) (c) false) false],92⟩) (λ⟨c⟩=>N c=96∧Dg9 c∧Hi0 c) (Ap Z Z<|sb4 Z Z Z Z<|(((sbC Z<|sbC Z<|sbC Z<|sbN)))) ⟨hZ _,hcl,hcd,hcz⟩ ?_ ?_
  ·rintro⟨k,c⟩ ⟨hk,hcl,hcd,hcz⟩;have hk:k≤N w:=hk;have hcl:N c=96:=hcl;have hcd:Dg9 c:=hcd;have hcz:Hi0 c:=hcz;refine sO ?_;by_cases hlt:k<N w;·have hdg:=hFw.2 (N w-1-k) Y;refine mT Z<|mn<|sq<|cT Z<|kM<|sq<|bM<|sO<|x2 Z Z<|oM<|mV Z<|mI ((48+k:Nat):Int) Z<|m3 Z Z Z<|mI (((N w:Nat):Int)-1) Z<|mV Z<|mI ((N w-1-k:Nat):Int) Z<|Ac hg gN (v:=J .u8<|(w.getD (N w-1-k) 0).toNat) Z Z K7<|mK (v:=J .u8 ((w.getD (N w-1-k) 0).toNat-48:Nat)) Z (congrArg (J .u8) bY144)<|mK (v:=J z8 ((w.getD (N w-1-k) 0).toNat-48:Nat)) Z (congrArg (J z8)<|w8 Y Y)<|mV (v:=aP 1 1) (Gv Z Z)<|Ac hg gN (v:=aP 1<|1+(48+k)) (W1 Z Z Z) Z K7<|Ai hg gN (Xt Z Z Z Y Z)<|mn<|oM<|mI ((k+1:Nat):Int) Z<|x1 Z ?_;exact⟨⟨k+1,c.set (48+k) (((w.getD (N w-1-k) 0).toNat-48:Nat):Int)⟩,⟨(Y:k+1≤N w),(by grind),hcd.set Y Y,hcz.set<|.inl Y⟩,(by grind),Ap Z Z<|sb4 Z Z Z Z<|(((sbC Z<|sbC Z<|sbC Z<|sbN)))⟩
   ·refine mF Z<|mn<|sq<|cF Z<|iN ?_;exact .inl ⟨Z,⟨c⟩,⟨hcl,hcd,hcz⟩,Ap Z Z<|sb4 Z Z Z Z<|(((sbC Z<|sbN)))⟩
  ·rintro⟨c⟩ s' hJ hs;obtain⟨hcl,hcd,hcz⟩:=hJ;have hcl:N c=96:=hcl;have hcd:Dg9 c:=hcd;have hcz:Hi0 c:=hcz;refine jU hs ?_;refine sq<|sO<|x3 Z Z Z<|bM ?_;refine jT (σ:=KC) (τ:=Wr) (λ⟨k,c⟩=>⟨.al [(2,aP 0 0),(5,I<|gJ s [45]),(6,S w),(7,S p),(9,aP 1 0),(60,J U<|N p),(61,J U k)],[C 54 z5L false,C 229 (nb (gJ s [45]) (c) false) false],92⟩) (λ⟨k,c⟩=>k≤N p∧N c=96∧Dg9 c∧Hi0 c) (λ⟨k,c⟩=>N p-k) ⟨0,c⟩ 2 (λ⟨c⟩=>⟨.al [(2,aP 0 0),(5,I<|gJ s [45]),(6,S w),(7,S p),(9,aP 1 0)],[C 54 z5L false,C 229 (nb (gJ s [45]) (c) false) false],92⟩) (λ⟨c⟩=>N c=96∧Dg9 c∧Hi0 c) (Ap Z Z<|sb4 Z Z Z Z<|(((sbC Z<|sbC Z<|sbC Z<|sbN)))) ⟨hZ _,hcl,hcd,hcz⟩ ?_ ?_
   ·rintro⟨k,c⟩ ⟨hk,hcl,hcd,hcz⟩;have hk:k≤N p:=hk;have hcl:N c=96:=hcl;have hcd:Dg9 c:=hcd;have hcz:Hi0 c:=hcz;refine sO ?_;by_cases hlt:k<N p;·have hdg:=hFp.2 (k) Y;refine mT Z<|mn<|sq<|cT Z<|kM<|sq<|bM<|sO<|x2 Z Z<|oM<|mV Z<|mI ((47-k:Nat):Int) Z<|m2 Z Z<|Ac hg gN (v:=J .u8<|(p.getD (k) 0).toNat) Z Z K7<|mK (v:=J .u8 ((p.getD (k) 0).toNat-48:Nat)) Z (congrArg (J .u8) bY144)<|mK (v:=J z8 ((p.getD (k) 0).toNat-48:Nat)) Z (congrArg (J z8)<|w8 Y Y)<|mV (v:=aP 1 1) (Gv Z Z)<|Ac hg gN (v:=aP 1<|1+(47-k)) (W1 Z Z Z) Z K7<|Ai hg gN (Xt Z Z Z Y Z)<|mn<|oM<|mI ((k+1:Nat):Int) Z<|x1 Z ?_;exact⟨⟨k+1,c.set (47-k) (((p.getD (k) 0).toNat-48:Nat):Int)⟩,⟨(Y:k+1≤N p),(by grind),hcd.set Y Y,hcz.set<|.inl Y⟩,(by grind),Ap Z Z<|sb4 Z Z Z Z<|(((sbC Z<|sbC Z<|sbC Z<|sbN)))⟩
    ·refine mF Z<|mn<|sq<|cF Z<|iN ?_;exact .inl ⟨Z,⟨c⟩,⟨hcl,hcd,hcz⟩,Ap Z Z<|sb4 Z Z Z Z<|(((sbC Z<|sbN)))⟩
   ·rintro⟨c⟩ s' hJ hs;obtain⟨hcl,hcd,hcz⟩:=hJ;have hcl:N c=96:=hcl;have hcd:Dg9 c:=hcd;have hcz:Hi0 c:=hcz;refine jU hs ?_;refine sO<|mV (v:=aG<|nb (gJ s [45]) c false) (HP Z Z hcl) ?_;refine C4 hg gN Z Z (by show cond (A8 0<|nb _ _ _) true false=true;rw[Jn];rfl) (SK hg hcl hcd hcz) ?_ ?_;·rintro _ ⟨M,E,e,rfl,q1,q2,q3,q4⟩;rfl
    rintro _ ⟨M,E,e,rfl,q1,q2,q3,q4⟩;refine m3 Z Z Z<|mV (v:=aP 2 0) Z<|Ai hg gN Z<|x1 Z<|sq<|sO<|mV Z<|mC Z (hO Z (show blw 0 (aG<|nb (decide<|M<0) (Ek 16 (fH 96 (0:Int)) (48+E).toNat M.natAbs) false)=true from Jn _ _ _) (layP hg q1 q2 q3 q4 Y) _)<|mV (v:=aP 3 0) Z<|Ai hg gN (J9 (H':=[C 54 z5L false,C 229 (nb (gJ s [45]) c false) false,C 54 [J U M,J U E] false,C 229 (nb (decide<|M<0) (Ek 16 (fH 96 (0:Int)) (48+E).toNat M.natAbs) false) false]) Z Z Z (nbW (b':=false) (l':=(fH 96 (0:Int))) (m':=false) ⟨FY,B4⟩) (by show[C 54 z5L false,C 229 (nb (gJ s [45]) c false) false,C 54 [J U M,J U E] false,C 229 (spl (nb false (fH 96 (0:Int)) false) 0 (aG<|nb (decide<|M<0) (Ek 16 (fH 96 (0:Int)) (48+E).toNat M.natAbs) false).cells) false]=_;grind[CP,M6]))<|mn<|sO<|mV Z ?_;refine mB hg gN Z Z O (λh4=>?_)<|λh4=>?_;·refine mV Z<|mG<|mG<|mG<|mG<|mG<|x1 Z<|cT Z<|sO<|mV Z<|Ai hg gN Z<|x1 Z<|iL ?_;exact⟨_,⟨_,_,_,Z⟩,A4 O Z Z 100 Z Z⟩
    ·obtain⟨r,hr⟩:=LO (l:=(Ek 16 (fH 96 (0:Int)) (48+E).toNat M.natAbs)) (l':=c) 96 0 FY Y;refine mV Z<|mV (v:=aP 3 1) (Gv Z Z)<|mV (v:=aG<|i8s<|Ek 16 (fH 96 (0:Int)) (48+E).toNat M.natAbs) (QE Z Z FY)<|mV (v:=aP 1 1) (Gv Z Z)<|mV (v:=aG<|i8s c) (QE Z Z hcl)<|mV (v:=I<|cond true (not r) r) (oEqs Z Z hr)<|x1 Z ?_;refine kP hg Z (λh5=>?_)<|λh5=>?_;·refine sO<|mV Z<|Ai hg gN Z<|x1 Z<|iL ?_;exact⟨_,⟨_,_,_,Z⟩,A4 O Z Z 100 Z Z⟩
     ·refine kM<|sO<|mV Z<|Ai hg gN Z<|x1 Z<|iL ?_;exact⟨_,⟨_,_,_,Z⟩,A4 O Z Z 100 Z Z⟩
theorem A5.ofE {P:Program}{W0:World}{f:FuncId}{args:List AVal}{v:AVal}(h:Aw P W0 f args<|λx=>x=v):A5 P W0 f args [] v []:=by refine⟨h.1,λF bs w cargs hh hr=>?_⟩;have hb:bs=[]:=List.length_eq_zero_iff.1 (by simpa using hh.len);subst hb;refine Calls.mono (h.2 F w cargs hh hr) λe w' he=>?_;grind
theorem inputP (hk:Kn W0)(hg:hGr W0 G){s:Bz}(hl:lit s)(hne:s≠[]):cP W0 41 [S s] [] (I true) []:=by
 have h61:s.getD 0 0≠61:=by cases s with|nil=>exact absurd rfl hne|cons c r=>exact hl.1 c r rfl
 have hlen:=hl.2.1;refine A5.ofE<|goE 41 30 ?_;refine sO<|x1 Z<|sq<|sO<|mV Z<|mBk hg gN (c:=false) Z Z (by grind)<|m3 Z Z Z<|mF Z<|x1 Z<|cF Z<|kM<|sq<|sO<|mV Z<|Ac hg gN (v:=J .u8<|(s.getD 0 0).toNat) (J8 (n:=0) Z Z) Z bY183<|mBk hg gN (c:=false) Z Z (by rw[bFn];intro e;exact h61<|UInt8.toNat_inj.1 (by grind))<|mn<|cF Z<|kM<|sO<|mV Z ?_;refine C4 hg gN Z Z Z (readOK hk hg (λs hs=>decRead hk hg hs) hl hne) ?_ ?_;·grind
 rintro _ ⟨hb,c,rfl,hc1,hc2⟩;refine m3 Z Z Z<|mV (v:=aP 0 0) Z<|Ai hg gN (J9 Z Z Z (by show(aA (N c) 12&&bK 12 12&&c.all fW)=true;simp_all) Z)<|x1 Z<|sO<|mV Z<|mBk hg gN (c:=true) Z Z Z<|x1 Z ?_;exact iL ⟨_,Z,A4 O Z Z 100 Z Z⟩
theorem Ri {shs:List PSh}{i:Nat}(h:i<N shs):Ef (shs.take<|i+1)=Ef (shs.take i)+(shs.getD i ps0).cs.length:=by grind[Ef,List.take_succ_eq_append_getElem]
theorem Xb {shs:List PSh}(i:Nat):Ef (shs.take i)≤Ef shs:=by grind[List.take_append_drop,Ef]
theorem manyP (hg:hGr W0 G){shs:List PSh}{bkr:List AVal}(hc:∀n,A8 n bkr=true)(hl:N shs≤1000000)(hm:Ef shs≤1000000):cP W0 37 [aG (aR 2 (shs.map psV)::bkr)] [] (J U<|Ef shs) []:=by
 refine goM 37 20 ?_;refine iO<|iM hg<|Ac hg gN (v:=aP 0 0) Z Z O<|Ac hg gN Z Z O<|Bg<|iO<|iM hg<|Ac hg gN Z Z O<|Bg<|iO<|iO<|iM hg<|Ac hg gN Z Z O<|Ac hg gN Z Z O<|Ac hg gN (v:=J U<|N shs) (Hy Z) Z O<|Ac hg gN Z Z O<|Bg<|jK ?_;refine jT (σ:=Nat) (τ:=Unit) (λi=>⟨.al [(3,J U<|Ef<|shs.take i),(7,aR 2<|shs.map psV),(8,J U<|N shs),(9,J U i)],[C 31 (aR 2 (shs.map psV)::bkr) false],20⟩) (λi=>i≤N shs) (λi=>N shs-i) 0 0 (λ_=>⟨.al [(3,J U<|Ef shs)],[C 31 (aR 2 (shs.map psV)::bkr) false],20⟩) (λ_=>True) (Ap Z Z<|sb4 Z Z Z Z<|(((sbN)))) (hZ _) ?_ ?_
 ·rintro i hi;have hi:i≤N shs:=hi;by_cases hlt:i<N shs;·have hm:=Ri hlt;have hle:=Xb (shs:=shs)<|i+1;refine sO<|mT Z<|mn<|sq<|cT Z<|kM<|sq<|bM<|sO<|mS (v:=aE (psV<|shs.getD i ps0) 0) (Dn Z Z Z hlt)<|mV Z<|mV (v:=aP 1 0) Z<|Ai hg gN Z<|mn<|oM<|m3 Z Z Z<|mV (v:=J U<|(shs.getD i ps0).cs.length) (Hy Z)<|mI ((Ef (shs.take<|i+1):Nat):Int) Z<|x1 Z<|oM<|mFz (s1:=⟨.al [(3,J U<|Ef<|shs.take<|i+1),(7,aR 2<|shs.map psV),(8,J U<|N shs),(9,J U i)],[C 31 (aR 2 (shs.map psV)::bkr) false],20⟩) (As 1 Z (hZ _) Z (by show cond (cond (A8 1<|shs.map psV) (A8 1 bkr) false) true false=true;rw[Av,hc];rfl)<|fI<|fzC Z (Aq<|Av _)<|fI<|fI fzN)<|mI ((i+1:Nat):Int) Z<|x1 Z ?_;exact⟨(i+1),(Y:i+1≤N shs),Y,Ap Z Z<|sb4 Z Z Z Z<|(((sbN)))⟩
  ·have he:i=N shs:=by omega
   rw[he,List.take_length];refine sO<|mF Z<|mn<|sq<|cF Z ?_;exact iN<|.inl ⟨Z,(),O,Ap Z Z<|sbC Z<|sbN⟩
 ·rintro _ s' hJ hs;refine jU hs ?_;refine sO<|x2 Z Z ?_;exact iL<|pL
section
variable {P : Program} {l : List (Nat × AVal)} {H H' : Hz} {m n k : Nat} {K : St → Prop} {r : List AOper} {g : Option (Nat × Bool)} {a x : AOpd}
theorem vSt {id T:Nat}{cs vs:List AVal}(ha:ev G ⟨.al l,H,n⟩ a=some (aP id 0))(hx:ev G ⟨.al l,H,n⟩ x=some (aG vs))(ho:H[id]?=some (C T cs false))(h1:N vs=k)(h2:N cs=k)(h3:vs.all AVal.one=true)(hH:H.set id (C T vs false)=H')(q:Ag P W0 G m r ⟨.al l,H',n⟩ K)(hg:Gr P W0 G:=by assumption)(hgd:Gok g l:=by first|exact gN|exact gS rfl):Ag P W0 G m (⟨none,g,.store k a x⟩::r) ⟨.al l,H,n⟩ K:=by
 refine Ai hg hgd (J9 ha hx ho ?_ ?_) q;·show(aA (N vs) k&&bK (0+k) (N cs)&&vs.all fW)=true;simp_all
 ·rw[←hH];congr 2;show List.take 0 cs++(vs++cs.drop (0+N vs))=vs;grind
theorem vLl {id T d:Nat}{vs:List AVal}(ha:ev G ⟨.al l,H,n⟩ a=some (aP id 0))(ho:H[id]?=some (C T vs false))(h1:N vs=k)(q:Ag P W0 G m r ⟨.al ((d,aG vs)::l),H,n⟩ K)(hg:Gr P W0 G:=by assumption)(hgd:Gok g l:=by first|exact gN|exact gS rfl)(hd:(Nat.blt d n&&Nat.blt d 4094)=true:=by rfl):Ag P W0 G m (⟨some d,g,.load k true a⟩::r) ⟨.al l,H,n⟩ K:=Ac hg hgd (O9 ha ho (by simp[C3,←h1])) hd trivial q
end
theorem rvAgg {s:St}{a id k T:Nat}{vs us:List AVal}{rs:List RV}(hx:s.env.get a=some (aP id 0))(ho:s.H[id]?=some (C T vs false))(h1:N vs=k)(h:If s rs=some us):If s (.cell a k true::rs)=some (aG vs::us):=by subst h1;simp[If,JX,hx,Jf,ho,C3,h]
theorem blwA {l:List AVal}{r:List AVal}(h:A8 0 l=true)(hr:A8 0 r=true):A8 0 (aG l::r)=true:=by show cond (A8 0 l) (A8 0 r) false=true;grind
theorem TJ {l:List AVal}{r:List AVal}{H:Hz}(h:A8 0 l=true)(hr:A8 0 r=true):∃k,frz H 0 k (aU (aG l::r))=some (aU (aG l::r)):=by obtain⟨k,hk⟩:=Lm (H:=H) (n:=0) (aU (aG l::r))<|blwA h hr;exact⟨k,hk k<|bC _⟩
theorem foP (hg:hGr W0 G){t:Bz}(h:Qm W0 t):∃l,N l=20∧l.all fW=true∧A8 0 l=true∧cP W0 72 [S t] [] (aU [aG l,I true]) []:=by obtain⟨hl,u,l,rfl,h1,h2,h3,hr⟩:=h;refine⟨l,h1,h2,h3,?_⟩;have hc:∀H,cP W0 109 [S (61::u),S [61]] H (aU [S u,I true]) H:=λH=>Ii;have hr':=λH=>hO (W0:=W0) (P:=gH) Z bY74 hr H;have hl':(N (61::u):Int)≤200:=Y;refine goW 72 31 0 ?_;refine Wm ?_;refine vSt Z Z Z h1 Z h2 Z ?_;refine Wm ?_;refine vLl Z Z h1 ?_;refine Wm ?_;refine vSt Z Z Z h1 Z h2 Z ?_;refine Wm ?_;obtain⟨k,hk⟩:=TJ (H:=[C 140 l false,C 140 l false]) (r:=[I true]) h3 rfl;exact A4 O (vs:=[aG l,I true]) (rvAgg Z Z h1 Z) Z k hk Z
def Y5 (W0:World)(t:Bz):Prop:=t≠[]∧(lit t∨Qm W0 t)
theorem inpG (hk:Kn W0)(hg:hGr W0 G){t:Bz}(h:Y5 W0 t):cP W0 41 [S t] [] (I true) []:=by
 obtain⟨hne,h|h⟩:=h;·exact inputP hk hg h hne
 obtain⟨l,h1,h2,h3,hf⟩:=foP hg h;obtain⟨hl,u,_,rfl,_⟩:=h;have hf':=λH=>hO (W0:=W0) (P:=gH) Z bY74 hf H;refine goW 41 30 0 ?_;have hz:N (61::u:Bz)≤200:=hl;refine Wm ?_;refine mS (v:=J .u8 61) Z ?_;refine Wm ?_;refine vSt Z Z Z h1 Z h2 Z ?_;exact We
theorem Aw.fnW {P:Program}{f:Nat}{code:ACode}{res:List RV}{n0:Nat}(n:Nat)(hf:Gs P f=some ⟨code,res,n0⟩){args:List AVal}{Q:AVal→Prop}(h:ExM P W0 0 code ⟨.al<|Ec 0 args,[],n⟩ λe s=>∃v,Q v∧Ja res 0 v [] e s)(hl:N args≤4094:=by simp)(hn:N args+(n0-N args)=n:=by rfl):Aw P W0 f args Q:=Aw.of_fnM hf hl hn h
theorem i64_div {x:Int}(h:i64 x)(n:Nat):i64 (x.tdiv n):=by
 have h1:(x.tdiv n).natAbs=x.natAbs/n:=by rw[Int.natAbs_tdiv];rfl
 have h2:=Nat.div_le_self x.natAbs n;have h3:x=-9223372036854775808∨-9223372036854775807≤x:=by have:=h.1;omega
 unfold i64 at*;rcases h3 with rfl|h3
 ·rcases Int.le_total 0 ((-9223372036854775808:Int).tdiv n)with h4|h4
  ·have:(-9223372036854775808:Int).tdiv n≤0:=by simp_all[Int.tdiv_nonneg]
   omega
  ·omega
 ·omega
theorem inputE (hk:Kn W0){c:RC}(hc:DK c)(hs:N c.vs≤150000000000000){n:Nat}(hn:1≤n∧n≤3)(nb tb:Bool):Aw gH W0 16 [rcV c,J U (n:Nat),I nb,I tb] (λv=>∃t:Bz,v=S t∧Y5 W0 t):=by
 have hg:=grK hk;obtain⟨t,hf,hG⟩:=FR hk hc hn nb tb;have hF:=λH=>hO Z Z hf H;have hd:=i64_div hc.kd 16;have hP:=λH=>Fg hg (c:=c.kd.tdiv 16) (n:=2) hd.1 hd.2 V H;have h2:=C6 (c:=c.kd.tdiv 16) (n:=2) V;generalize Bt (c.kd.tdiv 16) 2=k at hP h2;have hw:∀x:Int,i64 x→U.wrap x=x:=λx h=>w64 h.1 h.2;refine goE 16 22 ?_;refine Wm ?_;refine mKs (v:=J U<|c.kd.tdiv 16) Z (congrArg (J U)<|hw _ hd) ?_
 match k,h2 with
 |0,_=>refine Wm ?_;exact⟨_,⟨t,rfl,by have:=hG;obtain⟨_,u,_,rfl,_⟩:=this;simp,.inr hG⟩,A4 trivial rfl rfl 100 rfl rfl⟩
 |1,_=>
  refine Wm ?_;refine C4 hg gN Z Z Z (QF hk (b:=c.vb) hc.vk hc.vm hc.ve hs) ?_ ?_;·rintro _ ⟨t,rfl,_⟩;rfl
  rintro _ ⟨t,rfl,h1,h2⟩;refine Wm ?_;exact⟨_,⟨t,Z,h2,.inl h1⟩,A4 O Z Z 100 Z Z⟩
 |_+2,h=>omega
def pcL (c:PCl):List AVal:=[J U c.r,J U c.c,S c.s]
def pcC (l:List PCl):List AVal:=l.flatMap pcL
theorem W6 :∀l:List PCl,N (pcC l)=N l*3
 | []=>rfl|x::l=>by have:=W6 l;grind[pcC,pcL]
theorem MH (l k:List PCl):pcC (l++k)=pcC l++pcC k:=by simp[pcC]
theorem JL :∀l:List PCl,(pcC l).all fW=true
 | []=>rfl|x::l=>by have:=JL l;simp only[pcC,List.flatMap_cons,List.all_append,bAt]at this⊢;exact⟨Z,this⟩
theorem EV {n:Nat}:∀l:List PCl,A8 n (pcC l)=true
 | []=>rfl|x::l=>EV l
theorem rowC :∀l:List PCl,(l.map pcV).flatMap AVal.cells=pcC l
 | []=>rfl|x::l=>by have:=rowC l;simp only[jZ,List.flatMap_cons,this,pcC];rfl
def oV (l:List PCl):AVal:=match l with
 | []=>aN|x::r=>aH 3 1 0 (N (x::r)) none
def oH (d:PCl)(l:List PCl):Hz:=match l with
 | []=>[]|x::r=>[C 81 (pcL d) false,C 81 (pcC (x::r)) true]
theorem oV_ne {l:List PCl}(h:l≠[]):oV l=aH 3 1 0 (N l) none:=by cases l with|nil=>exact absurd rfl h|cons x r=>rfl
theorem TL {d:PCl}{l:List PCl}(h:l≠[]):oH d l=[C 81 (pcL d) false,C 81 (pcC l) true]:=by cases l with|nil=>exact absurd rfl h|cons x r=>rfl
section
variable {s : St} {x y i : AOpd} {q : PCl} {l : List PCl} {d : PCl}
theorem oPut (hx:ev G s x=some (oV l))(hy:ev G s y=some (aH 3 (N<|oH d l) 0 1<|some 1))(hH:s.H=oH d l++[C 81 (pcL q) false]):
 ∃X,aop G s (.append 81 3 32 x y)=some (.val (oV<|l++[q]) X [(((N l+1)*32:Nat),C0),((N l+1:Nat),C0)])∧X.take 2=oH (match l with| []=>q|_=>d) (l++[q]):=by
 cases l with
 |nil=>refine⟨[C 81 (pcL q) false,C 81 (pcL q) true],?_,Z⟩;simp only[aop,hx,hy,hH];rfl
 |cons a r=>
  refine⟨[C 81 (pcL d) false,C 81 (pcC (a::r++[q])) true,C 81 (pcL q) false],?_,Z⟩;have h1:aA (N (a::r)*3) (N<|pcC (a::r))=true:=by rw[W6];simp_all
  have h2:pcC (a::r++[q])=pcC (a::r)++pcL q:=by rw[MH];simp[pcC]
  have h3:oV (a::r++[q])=aH 3 1 0 (N (a::r)+1) none:=by grind[oV_ne]
  rw[h3,h2];simp only[aop,hx,hy,hH,oV,oH,P4,Cm,lCo,lNi,List.cons_append,List.nil_append,eT,eV];simp only[G6,eT,eV,kK,kL];simp only[lCo]at h1;simp only[h1,fY,kC,cond_true];rfl
theorem oPutR {ks:List PCl}(hx:ev G s x=some (oV l))(hl:l≠[])(hy:ev G s y=some (aR 3<|ks.map pcV))(hH:s.H=oH d l):
 ∃X w,aop G s (.append 81 3 32 x y)=some (.val (aH 3 1 0 (N l+N ks) none) X w)∧X=oH d (l++ks)∧(N l+N ks≤1000000→Ah w):=by
 rw[oV_ne hl]at hx;rw[TL hl]at hH;rw[TL (by simp[hl])];cases ks with
 |nil=>refine⟨_,[],?_,Z,λ_=>O⟩;simp only[aop,hx,hy,hH,P4,Cm,List.map_nil,List.flatMap_nil,lNi,fY,cond_true,isSl,Nat.add_zero,List.append_nil]
 |cons a r=>
  refine⟨_,[(((N l+N (a::r))*32:Nat),C0),((N l+N (a::r):Nat),C0)],?_,Z,λh=>by simp only[Ah,and_true,C0];omega⟩;have h1:aA (N l*3) (N<|pcC l)=true:=by rw[W6];simp_all
  have h4:((a::r).map pcV).flatMap AVal.cells=pcC (a::r):=rowC _;simp only[aop,hx,hy,hH,P4,Cm,fY,cond_true,h4,jY,JL,G6,eT,eV,h1,Bool.and_true,Bool.true_and,kK,kL,MH];rfl
end
theorem ahdN_ok {r c:Nat}{l:List PCl}{i:Nat}(h:i<D2 r c l):i<N l∧((l.getD i pc0).r<r∨(l.getD i pc0).r=r∧(l.getD i pc0).c<c):=by
 have h1:=W7 r c l;have h2:l[i]?=some (l.getD i pc0):=by grind
 exact⟨Y,CX r c l i _ h h2⟩
theorem ahdN_no {r c:Nat}{l:List PCl}(h:D2 r c l<N l):¬((l.getD (D2 r c l) pc0).r<r∨(l.getD (D2 r c l) pc0).r=r∧(l.getD (D2 r c l) pc0).c<c):=by
 have h2:l[D2 r c l]?=some (l.getD (D2 r c l) pc0):=by grind
 exact BN r c l _ h2
theorem AL {l:List PCl}{i:Nat}(h:i<N l):l.take (i+1)=l.take i++[l.getD i pc0]:=by simp_all
section
variable {P : Program} {l : List (Nat × AVal)} {H : Hz} {m n : Nat} {K : St → Prop} {r : List AOper} {g : Option (Nat × Bool)} {d : Nat} {cs : List PCl} {i k : Nat} {x y : AOpd}
theorem vPc (hlt:i<N cs)(hx:ev G ⟨.al l,H,n⟩ x=some (aR 3<|cs.map pcV))(hy:ev G ⟨.al l,H,n⟩ y=some (J U i))(k:Ag P W0 G m r ⟨.al ((d,aE (pcV<|cs.getD i pc0) 0)::l),H,n⟩ K)(hg:Gr P W0 G:=by assumption)(hgd:Gok g l:=by first|exact gN|exact gS rfl)(hd:(Nat.blt d n&&Nat.blt d 4094)=true:=by rfl):Ag P W0 G m (⟨some d,g,.idxSl 3 x y⟩::r) ⟨.al l,H,n⟩ K:=Ac hg hgd (Dn (d:=pc0) hx hy Z hlt) hd K7 k
end
section
variable {P : Program} {e : List (Nat × AVal)} {m n : Nat} {K : St → Prop} {r : List AOper} {g : Option (Nat × Bool)} {dd : Nat} {l : List PCl} {q d : PCl} {x y : AOpd}
theorem vPut (hx:ev G ⟨.al e,oH d l++[C 81 (pcL q) false],n⟩ x=some (oV l))(hy:ev G ⟨.al e,oH d l++[C 81 (pcL q) false],n⟩ y=some (aH 3 (N<|oH d l) 0 1<|some 1))(hl:N l≤1000000)(k:∀X d',X.take 2=oH d' (l++[q])→Ag P W0 G m r ⟨.al ((dd,oV<|l++[q])::e),X,n⟩ K)(hg:Gr P W0 G:=by assumption)(hgd:Gok g e:=by first|exact gN|exact gS rfl)(hd:(Nat.blt dd n&&Nat.blt dd 4094)=true:=by rfl):Ag P W0 G m (⟨some dd,g,.append 81 3 32 x y⟩::r) ⟨.al e,oH d l++[C 81 (pcL q) false],n⟩ K:=by obtain⟨X,h1,h2⟩:=oPut (G:=G) hx hy rfl;exact Ac hg hgd h1 hd PJ<|k X _ h2
theorem fvO {H:Hz}{l:List PCl}:FzV H 2 (oV l) (oV l):=by cases l with|nil=>exact .inl ⟨1,rfl⟩|cons a r=>exact D3 V
theorem CL :(oH d l).take 2=oH d l:=by cases l<;>rfl
theorem Yk :∀(l:List PCl),Da 3 (N l) (pcC l)=l.map pcV
 | []=>rfl|x::l=>by show _::Da 3 (N l) (pcC l)=_;rw[Yk l];rfl
theorem frz_pcs {L:List PCl}(hL:L≠[]):∃k,frz (oH d L) 0 k (aH 3 1 0 (N L) none)=some (aR 3<|L.map pcV):=by
 obtain⟨k,hk⟩:=Ir (H:=oH d L) (n:=0) (L.map pcV)<|B8 L;refine⟨k+1,?_⟩;have h1:bB 1 0=false:=rfl;have h2:(oH d L)[1]?=some (C 81 (pcC L) true):=by rw[TL hL];rfl
 have h3:(aA 0 0&&aA (N L*3) (N<|pcC L))=true:=by rw[W6];simp
 simp only[frz,h1,cond_false,h2,h3,cond_true,Yk,hk k<|bC _];rfl
theorem U9 :B7 2 (oH d l)=true:=by cases l with|nil=>rfl|cons a r=>show cond (A8 2<|pcL d) (cond (A8 2<|pcC (a::r)) true false) false=true;rw[EV];rfl
end
theorem tputP (hg:hGr W0 G){cs:List PCl}{r c:Nat}{q:Bz}(hq:q≠[])(hl:N cs≤1000)(hr:r≤1000)(hc:c≤1000):cP W0 15 [aR 3<|cs.map pcV,J U r,J U c,S q] [] (aR 3<|(M4 cs r c q).map pcV) []:=by
 have hle:=W7 r c cs;have hlm:N (cs.map pcV)=N cs:=jY _;have hbl:blw 0 (aR 3<|cs.map pcV)=true:=B8 cs;have hfv:=@fvO;refine goW 15 89 0 ?_;refine Wm ?_;refine ExM.lp (σ:=Nat×PCl) (τ:=PCl) (λp=>⟨.al [(0,aR 3<|cs.map pcV),(1,J U r),(2,J U c),(3,S q),(9,oV<|cs.take p.1),(10,J U p.1)],oH p.2<|cs.take p.1,89⟩) (λp=>p.1≤D2 r c cs) (λp=>D2 r c cs-p.1) (0,pc0) (λd=>⟨.al [(0,aR 3<|cs.map pcV),(1,J U r),(2,J U c),(3,S q),(9,oV<|cs.take<|D2 r c cs),(10,J U<|D2 r c cs)],oH d<|cs.take<|D2 r c cs,89⟩) (λ_=>True) (fzA 0) (hZ _) ?_ ?_
 ·rintro⟨i,d⟩ hi;simp only at hi⊢;by_cases hlt:i<D2 r c cs
  ·obtain⟨hil,ha⟩:=ahdN_ok hlt;have hlen:N (cs.take i)≤1000:=by grind
   refine Wm ?_;refine vPc hil Z Z ?_;by_cases h1:(cs.getD i pc0).r<r
   ·refine Wm ?_;refine vPc hil Z Z ?_;refine Wm ?_;refine mV (v:=aH 3 (N<|oH d<|cs.take i) 0 1<|some 1) (H':=oH d (cs.take i)++[C 81 (pcL<|cs.getD i pc0) false]) Z ?_;refine vPut Z Z Y λX d' hX=>?_;rw[←AL hil]at hX⊢;refine Wm ?_;apply loN (i+1,d');·exact hlt
    ·omega
    ·exact fzA 2 hX (hb:=U9)
   ·have h2:(cs.getD i pc0).r=r∧(cs.getD i pc0).c<c:=by omega
    refine Wm ?_;refine vPc hil Z Z ?_;refine Wm ?_;refine vPc hil Z Z ?_;refine Wm ?_;refine vPc hil Z Z ?_;refine Wm ?_;refine mV (v:=aH 3 (N<|oH d<|cs.take i) 0 1<|some 1) (H':=oH d (cs.take i)++[C 81 (pcL<|cs.getD i pc0) false]) Z ?_;refine vPut Z Z Y λX d' hX=>?_;rw[←AL hil]at hX⊢;refine Wm ?_;apply loN (i+1,d');·exact hlt
    ·omega
    ·exact fzA 2 hX (hb:=U9)
  ·obtain rfl:i=D2 r c cs:=by omega
   have fin:∀s,Fz 0 ⟨.al [(0,aR 3<|cs.map pcV),(1,J U r),(2,J U c),(3,S q),(9,oV<|cs.take<|D2 r c cs),(10,J U<|D2 r c cs)],oH d<|cs.take<|D2 r c cs,89⟩ s→loK 0 (λp:Nat×PCl=>⟨.al [(0,aR 3<|cs.map pcV),(1,J U r),(2,J U c),(3,S q),(9,oV<|cs.take p.1),(10,J U p.1)],oH p.2<|cs.take p.1,89⟩) (λp=>p.1≤D2 r c cs) (λp=>D2 r c cs-p.1) (D2 r c cs,d) 0 (λd=>⟨.al [(0,aR 3<|cs.map pcV),(1,J U r),(2,J U c),(3,S q),(9,oV<|cs.take<|D2 r c cs),(10,J U<|D2 r c cs)],oH d<|cs.take<|D2 r c cs,89⟩) (λ_=>True) (Ja [.tmp 8] 0 (aR 3<|(M4 cs r c q).map pcV) []) (.exit 0) s:=λs h=>loE d trivial h;by_cases hil:D2 r c cs<N cs
   ·have hno:=ahdN_no hil;refine Wm ?_;refine vPc hil Z Z ?_;by_cases h1:(cs.getD (D2 r c cs) pc0).r=r;·refine Wm ?_;refine vPc hil Z Z ?_;refine Wm ?_;refine vPc hil Z Z ?_;refine Wm ?_;exact fin _ (fzA 2 (CL) (hb:=U9))
    ·refine Wm ?_;refine vPc hil Z Z ?_;refine Wm ?_;exact fin _<|fzA 2 (CL) (hb:=U9)
   ·refine Wm ?_;exact fin _<|fzA 2 (CL) (hb:=U9)
 ·intro d _;have hlen:N (cs.take<|D2 r c cs)≤1000:=by grind
  refine Wm ?_;refine mT Z (hb:=by simp[hq]) ?_;refine Wm ?_;refine mV (v:=aH 3 (N<|oH d<|cs.take<|D2 r c cs) 0 1<|some 1) (H':=oH d (cs.take<|D2 r c cs)++[C 81 (pcL ⟨r,c,q⟩) false]) Z ?_;refine vPut Z Z Y λX d' hX=>?_;have fin:∀(k:Nat) (e:List<|Nat×AVal) X,k≤N cs→cs.take (D2 r c cs)++⟨r,c,q⟩::cs.drop k=M4 cs r c q→X.take 2=oH d' (cs.take (D2 r c cs)++[⟨r,c,q⟩])→lk 84 e=some (oV<|cs.take (D2 r c cs)++[⟨r,c,q⟩])→lk 85 e=some (aR 3<|cs.map pcV)→lk 86 e=some (J U k)→Ag gH W0 G 0 [⟨some 87,none,.cutSl 3 (.tmp 85) (some<|.tmp 86) none⟩,⟨some 88,none,.append 81 3 32 (.tmp 84)<|.tmp 87⟩,⟨some 8,none,.move<|.tmp 88⟩] ⟨.al e,X,89⟩ (sK gH W0 0 .ret (Ja [.tmp 8] 0 (aR 3<|(M4 cs r c q).map pcV) []) .normal):=by
   intro k e X hk he hX e1 e2 e3;refine mFz (s1:=⟨.al [(84,oV<|cs.take (D2 r c cs)++[⟨r,c,q⟩]),(85,aR 3<|cs.map pcV),(86,J U k)],oH d'<|cs.take (D2 r c cs)++[⟨r,c,q⟩],89⟩) (As 2 Z (hZ _) hX U9<|fzC e1 fvO<|fzC e2 (Aq hbl)<|fzC e3 fvI fzN) ?_;refine Ac hg gN (v:=aR 3<|(cs.drop k).map pcV) (H':=oH d'<|cs.take (D2 r c cs)++[⟨r,c,q⟩]) (side:=(Di 3 (cs.map pcV) (some (k:Nat)) none).2) ?_ Z ?_ ?_;·show some (ARes.val (Di 3 (cs.map pcV) (some (k:Nat)) none).1 _ _)=_;simp[Di,List.map_drop]
   ·simp_all[Di,Ah]
   obtain⟨X',w,q1,q2,q3⟩:=oPutR (G:=G) (s:=⟨.al [(87,aR 3<|(cs.drop k).map pcV),(84,oV<|cs.take (D2 r c cs)++[⟨r,c,q⟩]),(85,aR 3<|cs.map pcV),(86,J U k)],oH d'<|cs.take (D2 r c cs)++[⟨r,c,q⟩],89⟩) (x:=.tmp 84) (y:=.tmp 87) (d:=d') (l:=cs.take (D2 r c cs)++[⟨r,c,q⟩]) (ks:=cs.drop k) rfl B4 rfl rfl;refine Ac hg gN q1 Z (q3 Jo) ?_;refine Wm ?_;have hpc:(cs.take (D2 r c cs)++[⟨r,c,q⟩])++cs.drop k=M4 cs r c q:=by grind
   rw[hpc]at q2;obtain⟨fu,hfu⟩:=frz_pcs (d:=d') (L:=M4 cs r c q) (by grind);have hL:N (cs.take (D2 r c cs)++[(⟨r,c,q⟩:PCl)])+N (cs.drop k)=N (M4 cs r c q):=by grind
   refine A4 O Z Z fu ?_ Z;show frz X' 0 fu (aH 3 1 0 _ none)=_;grind
  by_cases hil:D2 r c cs<N cs
  ·by_cases h1:(cs.getD (D2 r c cs) pc0).r=r
   ·by_cases h2:(cs.getD (D2 r c cs) pc0).c=c;·refine Wm ?_;refine vPc hil Z Z ?_;refine Wm ?_;refine vPc hil Z Z ?_;refine Wm ?_;exact fin (D2 r c cs+1) _ X Y (by simp_all[M4]) hX Z Z Z
    ·refine Wm ?_;refine vPc hil Z Z ?_;refine Wm ?_;refine vPc hil Z Z ?_;refine Wm ?_;exact fin (D2 r c cs) _ X Y (by simp_all[M4]) hX Z Z Z
   ·refine Wm ?_;refine vPc hil Z Z ?_;refine Wm ?_;exact fin (D2 r c cs) _ X Y (by simp_all[M4]) hX Z Z Z
  ·refine Wm ?_;exact fin (D2 r c cs) _ X Y (by simp_all[M4]) hX Z Z Z
def shL (s:PSh):List AVal:=[S s.nm,aR 3<|s.cs.map pcV]
def shC (l:List PSh):List AVal:=l.flatMap shL
theorem Is :∀l:List PSh,N (shC l)=N l*2
 | []=>rfl|x::l=>by have:=Is l;grind[shC,shL,List.length_nil]
theorem shC_app (l k:List PSh):shC (l++k)=shC l++shC k:=by simp[shC]
theorem B9 {n:Nat}:∀l:List PSh,A8 n (shC l)=true
 | []=>rfl|x::l=>by have h1:=B9 (n:=n) l;have h2:A8 n (x.cs.map pcV)=true:=B8 _;show cond (A8 n<|x.cs.map pcV) (A8 n<|shC l) false=true;grind
theorem LE :∀{l:List PSh}{k:Nat},k<N l→(shC l).drop (k*2+1)=aR 3 ((l.getD k ps0).cs.map pcV)::(shC l).drop (k*2+2)
 |x::l,0,_=>rfl|x::l,k+1,h=>by have:=LE (l:=l) (k:=k) (by grind);have e1:(k+1)*2+1=(k*2+1)+2:=Y;have e2:(k+1)*2+2=(k*2+2)+2:=Y;rw[e1,e2];exact this
theorem LX :∀{l:List PSh}{k:Nat} (c:List PCl),k<N l→spl (shC l) (k*2+1) [aR 3<|c.map pcV]=shC (l.set k ⟨(l.getD k ps0).nm,c⟩)
 |x::l,0,_,_=>rfl|x::l,k+1,c,h=>by have:=LX (l:=l) (k:=k) c (by grind);have e1:(k+1)*2+1=(k*2+1)+2:=Y;rw[e1];show[S x.nm,aR 3<|x.cs.map pcV]++spl (shC l) (k*2+1) [aR 3<|c.map pcV]=_;rw[this];rfl
section
variable {s : St} {x i y : AOpd} {l : List PSh} {k id n m : Nat} {cp : Option Nat}
theorem KQ (hm:N l=m)(hx:ev G s x=some (aH 2 id 0 m cp))(hi:ev G s i=some (J U k))(ho:s.H[id]?=some (C 44 (shC l) true)):aop G s (.idxSl 2 x i)=some (.val (.optr id (k*2)<|m*2) s.H [(0,(k:Nat)),((k:Nat)+1,(m:Nat))]):=by simp_all[Lu,Qf,Is,aop]
theorem KF {c:Nat}(hm:N l=m)(hx:ev G s x=some (.optr id n<|m*2))(ho:s.H[id]?=some (C 44 (shC l) true)):aop G s (.fieldAddr c x)=some (.val (.optr id (n+c)<|m*2) s.H []):=by simp_all[Qf,Is,aop,BX,M5]
theorem KA (hm:N l=m)(hx:ev G s x=some (.optr id (k*2+1)<|m*2))(ho:s.H[id]?=some (C 44 (shC l) true))(hk:k<N l):aop G s (.load 1 false x)=some (.val (aR 3<|(l.getD k ps0).cs.map pcV) s.H []):=by
 subst hm;have h1:aA (N<|shC l) (N l*2)=true:=by rw[Is];simp_all
 simp only[aop,hx,Jf,ho,h1,cond_true,C3,LE hk];rfl
theorem SY {c:List PCl}{H':Hz}(hm:N l=m)(hx:ev G s x=some (.optr id (k*2+1)<|m*2))(hy:ev G s y=some (aR 3<|c.map pcV))(ho:s.H[id]?=some (C 44 (shC l) true))(hk:k<N l)(hH:s.H.set id (C 44 (shC<|l.set k ⟨(l.getD k ps0).nm,c⟩) true)=H'):aop G s (.store 1 x y)=some (.skip H'):=by
 subst hm;have h1:aA (N<|shC l) (N l*2)=true:=by rw[Is];simp_all
 have h2:bK (k*2+1+1) (N<|shC l)=true:=by rw[Is,Nat.ble_eq];omega
 have h3:Nc 1 s.H (.optr id (k*2+1)<|N l*2) (aR 3<|c.map pcV)=some H':=by
  have e1:(bB 44 1000000&&aA (N<|shC l) (N l*2)&&(aA (N<|(aR 3<|c.map pcV).cells) 1&&bK (k*2+1+1) (N<|shC l)&&((aR 3<|c.map pcV).cells).all fW))=true:=by rw[h1,h2];rfl
  simp only[Nc,ho,e1,cond_true];rw[←hH,←LX c hk];rfl
 grind[aop]
theorem oAppSh {jd vd:Nat}{nm:Bz}{c c':Option Nat}{H':Hz}(hx:ev G s x=some (aH 2 jd 0 (N l) c))(hy:ev G s y=some (aH 2 vd 0 1 c'))(hj:s.H[jd]?=some (C 44 (shC l) true))(hv:s.H[vd]?=some (C 44 [S nm,aN] false))(hH:s.H.set jd (C 44 (shC l++[S nm,aN]) true)=H'):
 aop G s (.append 44 2 40 x y)=some (.val (aH 2 jd 0 (N l+1) none) H' [(((N l+1)*40:Nat),C0),((N l+1:Nat),C0)]):=by
 subst hH;have hl:aA (N l*2) (N<|shC l)=true:=by rw[Is];simp_all
 have hy':Cm 2 s.H (aH 2 vd 0 1 c')=some ([S nm,aN],1):=by simp_all[Cm]
 simp only[aop,hx,hy,P4,hy',G6,hj,hl,fY,cond_true,kC];rfl
end
def BkB0 :ACode:=(.seq (sQ [yM 17 5,yM 18 4,yV 19<|.bin .lss none 17 18]<|.cond 19 .skip<|.exit 0)<|.seq (.block 1<|.drawC [yV 22<|.fieldAddr 0 3,yV 23<|.load 1 false 22,yM 24 5,yV 25<|kF 14 [24],yV 26<|.build [S [],aN] [(0,1,25)],yV 27<|.bslice 44 2 1 [S [],aN] [(0,2,26)],yV 28<|.append 44 2 40 23 27,yV 29<|.fieldAddr 0 3,yN<|.store 1 29 28] ⟨9,[1,1,0,3,0,2,2,1,2],[0,1,0,4,12,28,63,127,255],[0,8,40,104,360]⟩)<|.ops [yM 20 5,yV 21<|.bin .add none 20<|vI 1,yM 5 21])
def BkB1 :ACode:=(.seq (sQ [yM 42 6,yV 43<|.fieldAddr 1 1,yV 44<|.load 1 false 43,yV 45<|.len false 44,yV 46<|.bin .lss none 42 45,yM 47 46,yT 48 47<|.move 6,yT 49 47<|.bin .lss none 48<|vI 30,yV 50<|.pick 47 49<|.val<|I false]<|.cond 50 .skip<|.exit 2)<|.seq (.block 3<|sQ [yV 53<|.fieldAddr 1 1,yV 54<|.load 1 false 53,yM 55 6,yV 56<|.idxSl 15 54 55,yV 57<|.load 15 true 56,yV 7<|.alloc 58 z9L,yN<|.store 15 7 57]<|sQ [yV 58<|.fieldAddr 0 7,yV 59<|.load 1 false 58,yM 60 4,yV 61<|kF 13 [59,60],yM 8 61]<|.drawC [yV 62<|.fieldAddr 0 3,yV 63<|.load 1 false 62,yM 64 8,yV 65<|.fieldAddr 0 3,yV 66<|.load 1 false 65,yM 67 8,yV 68<|.idxSl 2 66 67,yV 69<|.fieldAddr 1 68,yV 70<|.load 1 false 69,yV 71<|.fieldAddr 1 7,yV 72<|.load 1 false 71,yV 73<|kF 13 [72,(vI 12)],yV 74<|.fieldAddr 2 7,yV 75<|.load 1 false 74,yV 76<|kF 13 [75,(vI 5)],yV 77<|.load 15 true 7,yM 78 4,yV 79<|.fieldAddr 2 1,yV 80<|.load 1 false 79,yV 81<|.fieldAddr 3 1,yV 82<|.load 1 false 81,yV 83<|kF 16 [77,78,80,82],yV 84<|kF 15 [70,73,76,83],yV 85<|.idxSl 2 63 64,yV 86<|.fieldAddr 1 85,yN<|.store 1 86 84] ⟨26,[1,1,0,1,1,0,1,1,1,1,1,3,1,1,3,1,0,1,1,1,1,3,3,1,1,2],[0,1,0,0,8,0,56,120,248,0,512,1536,0,4096,15872,0,0,0,131072,0,524288,2096640,4194296,8388607,16777215,33554431],[0,2048,18432,2115584,6309888,39864320]⟩)<|.ops [yM 51 6,yV 52<|.bin .add none 51<|vI 1,yM 6 52])
def BkB2 :ACode:=(.seq (sQ [yM 87 9,yV 88<|.fieldAddr 4 1,yV 89<|.load 1 false 88,yV 90<|.len false 89,yV 91<|.bin .lss none 87 90,yM 92 91,yT 93 92<|.move 9,yT 94 92<|.bin .lss none 93<|vI 4,yV 95<|.pick 92 94<|.val<|I false]<|.cond 95 .skip<|.exit 4)<|.seq (.block 5<|sQ [yV 98<|.fieldAddr 4 1,yV 99<|.load 1 false 98,yM 100 9,yV 101<|.idxSl 15 99 100,yV 102<|.load 15 true 101,yV 10<|.alloc 58 z9L,yN<|.store 15 10 102]<|.seq (.drawC [yV 103<|.fieldAddr 0 10,yV 104<|.load 1 false 103,yM 105 4,yV 106<|kF 13 [104,105],yV 107<|.fieldAddr 1 10,yV 108<|.load 1 false 107,yV 109<|kF 13 [108,(vI 8)],yV 110<|.fieldAddr 2 10,yV 111<|.load 1 false 110,yV 112<|kF 13 [111,(vI 5)],yV 113<|.fieldAddr 4 10,yV 114<|.idxArr 3 1 113<|vI 0,yV 115<|.load 1 false 114,yV 116<|kF 13 [115,(vI 4)],yV 117<|.bin .add none (vI 1) 116,yV 118<|.fieldAddr 4 10,yV 119<|.idxArr 3 1 118<|vI 1,yV 120<|.load 1 false 119,yV 121<|kF 13 [120,(vI 3)],yV 122<|.bin .add none (vI 1) 121,yV 123<|.build [J U 0,J U 0,J U 0,J U 0,J U 0] [(0,1,106),(1,1,109),(2,1,112),(3,1,117),(4,1,122)],yV 124<|.load 15 true 10,yM 125 4,yV 126<|.fieldAddr 2 1,yV 127<|.load 1 false 126,yV 128<|.fieldAddr 3 1,yV 129<|.load 1 false 128,yV 130<|kF 17 [124,125,127,129],yV 131<|.fieldAddr 3 10,yV 132<|.load 1 false 131,yV 133<|kF 13 [132,(vI 99)],yV 134<|.bin .add none (vI 1) 133,yV 135<|.build z8L [(0,5,123),(5,1,130),(6,1,134)],yV 11<|.alloc 64 z8L,yN<|.store 8 11 135] ⟨35,[1,1,0,3,1,1,3,1,1,3,1,1,1,3,0,1,1,1,3,0,0,1,0,1,1,1,1,3,1,1,3,0,0,2,2],[0,1,0,7,0,16,63,0,128,511,0,1024,3072,8191,16383,0,32768,98304,245759,507903,1048575,0,0,0,8388608,0,33554432,132628479,0,268435456,1072152575,2145894399,4294967295,0,17179869183],[0,8,8589934592,72,8589934600,584,8589934664,8776,8589935176,270920,8589943368,134488648,8590205512,1208230472,8724423240,9798165064,26978034248]⟩)<|.seq (sQ [yV 136<|.fieldAddr 4 10,yV 137<|.idxArr 3 1 136<|vI 2,yV 138<|.load 1 false 137,yV 139<|kF 13 [138,(vI 3)],yV 140<|.bin .eql none 139<|vI 1]<|.cond 140 (sQ [yV 141<|.fieldAddr 7 11,yN<|.store 1 141<|.val<|I true]<|.ops [yV 142<|.fieldAddr 6 11,yN<|.store 1 142<|vI 0]) .skip)<|.ops [yV 143<|.fieldAddr 3 3,yV 144<|.load 1 false 143,yV 145<|.load 8 true 11,yV 146<|.bslice 64 8 1 z8L [(0,8,145)],yV 147<|.append 64 8 72 144 146,yV 148<|.fieldAddr 3 3,yN<|.store 1 148 147])<|.ops [yM 96 9,yV 97<|.bin .add none 96<|vI 1,yM 9 97])
structure RB where
 sh:Int
 cs:List RC
 nm:Bool
 tb:Bool
 rs:List RC
abbrev rbL (b:RB):List AVal:=[J U b.sh,aR 15<|b.cs.map rcV,I b.nm,I b.tb,aR 15<|b.rs.map rcV]
structure OO (b:RB):Prop where
 sh:i64 b.sh
 cs:∀c∈b.cs,DK c∧N c.vs≤150000000000000
 rs:∀c∈b.rs,DK c∧N c.vs≤150000000000000
 cl:N b.cs≤150000000000000
 rl:N b.rs≤150000000000000
theorem FM {n:Nat}:∀l:List RC,A8 n (l.map rcV)=true
 | []=>rfl|_::l=>FM l
theorem Bq {n:Nat}{b:RB}:A8 n (rbL b)=true:=by show cond (A8 n<|b.cs.map rcV) (cond (A8 n<|b.rs.map rcV) true false) false=true;grind[FM]
def Qg (i:Nat):List PSh:=(eD i).map λk=>⟨ttl k,[]⟩
theorem Xw (i:Nat):N (Qg i)=i:=by simp[Qg]
theorem OF (i:Nat):Qg (i+1)=Qg i++[⟨ttl i,[]⟩]:=by simp[Qg,List.range_succ]
def g0 :HObj:=C 44 [S<|ttl 0,aN] false
def HS (b:RB)(B:List AVal)(shs:List PSh):Hz:=[C 24 (rbL b) false,C 31 Vr false,C 31 B false,g0,C 44 (shC shs) true]
def HS0 (b:RB):Hz:=[C 24 (rbL b) false,C 31 Vr false,C 31 Vr false]
def stA (b:RB)(n i:Nat):St:=⟨.al [(1,aP 0 0),(2,aP 1 0),(3,aP 2 0),(4,J U n),(5,J U i)],match i with
 |0=>HS0 b|i+1=>HS b [aH 2 4 0 (i+1) none,aN,aN,aN] (Qg (i+1)),150⟩
def stB (b:RB)(n:Nat):St:=⟨.al [(1,aP 0 0),(2,aP 1 0),(3,aP 2 0),(4,J U n)],HS b [aH 2 4 0 n none,aN,aN,aN]<|Qg n,150⟩
theorem titleN (hk:Kn W0)(i:Nat)(hi:i<3)(H:Hz):cP W0 14 [J U i] H (S<|ttl i) H:=by have h:=SW hk (a:=((i:Nat):Int)) ⟨Y,Y⟩;rw[Zz hi]at h;exact hO Z Z h H
theorem KN {H:Hz}{n:Nat}{b b':List AVal}(hb:FzL H n b b'):∀{a a':List AVal},FzL H n a a'→FzL H n (a++b) (a'++b')
 | [],[],_=>hb|_::_,_::_,h=>⟨h.1,KN hb h.2⟩| [],_::_,h=>h.elim|_::_,[],h=>h.elim
theorem roundA (hk:Kn W0){b:RB}{n:Nat}(hn:1≤n∧n≤3){K:Aj→St→Prop}(i:Nat)(hi:i≤n):ExM gH W0 0 BkB0 (stA b n i) (hoK 0 (stA b n) (λi=>i≤n) (λi=>n-i) i 0 (λ(_:Unit)=>stB b n) (λ_=>True) K):=by
 have hg:=grK hk;by_cases hlt:i<n;·have hti:=titleN hk i Y;unfold BkB0;cases i with|zero=>unfold stA;refine Wm ?_;refine kH hg ?_;refine Ha Z Z O Ar<|Ha Z Z O Ar<|Ha Z Z O Ar<|V5 Z Z (hti _) Z (pdC (cY (by show jR _ 8 1=true;rfl)<|evY Z O)<|pdC (cY (by show jR _ 8 0=true;rfl)<|evY Z O) pdN)<|Ha Z Z O Ar<|Rl (v:=aH 2 3 0 1<|some 1) Z Z O Z (pdC (cY (by show jR _ 40 1=true;rfl)<|evY Z O)<|pdC (cY (by show jR _ 40 0=true;rfl)<|evY Z O) pdN)<|?_;refine Rl (v:=aH 2 4 0 1 none) Z Z (by simp_all[Ah,C0]) Z (pdC (cN (by show jR _ 104 1=false;rfl))<|pdC (cN (by show jR _ 104 0=false;rfl)) pdN)<|Ha Z Z O Ar<|Wp Z Z (pdC (cN (by show jR _ 360 1=false;rfl))<|pdC (cN (by show jR _ 360 0=false;rfl)) pdN)<|MK Z<|?_;refine Wm ?_;refine hoN 1 Y Y<|B6 5 ⟨frS Bq,frS Z,⟨_,Z,D3 V,Am,Am,Am,O⟩,frS Z,⟨_,Z,fvS,Oa,O⟩,O⟩ ?_;exact fzC Z (Af V) (fzC Z (Af V)<|fzC Z (Af V)<|fI<|fI fzN)|succ i=>have hsl:=Xw<|i+1;unfold stA;refine Wm ?_;refine kH hg ?_;refine Ha Z Z O Ar<|Ha Z Z O Ar<|Ha Z Z O Ar<|V5 Z Z (hti _) Z (pdC (cY (by show jR _ 8 1=true;rfl)<|evY Z O)<|pdC (cY (by show jR _ 8 0=true;rfl)<|evY Z O) pdN)<|Ha Z Z O Ar<|Rl (v:=aH 2 5 0 1<|some 1) Z Z O Z (pdC (cY (by show jR _ 40 1=true;rfl)<|evY Z O)<|pdC (cY (by show jR _ 40 0=true;rfl)<|evY Z O) pdN)<|?_;refine Rl (v:=aH 2 4 0 (N (Qg<|i+1)+1) none) (oAppSh (l:=Qg<|i+1) (by rw[Xw];rfl) Z Z Z Z) Z PJ Z (pdC (cN (by show jR _ 104 1=false;rfl))<|pdC (cN (by show jR _ 104 0=false;rfl)) pdN)<|Ha Z Z O Ar<|Wp Z Z (pdC (cN (by show jR _ 360 1=false;rfl))<|pdC (cN (by show jR _ 360 0=false;rfl)) pdN)<|MK Z<|?_;refine Wm ?_;refine hoN (i+2) Y Y<|B6 5 ⟨frS Bq,frS Z,⟨_,Z,by grind[D3],Am,Am,Am,trivial⟩,frS rfl,⟨_,by rw[OF<|i+1,shC_app];rfl,KN (b:=[S<|ttl<|i+1,aN]) (b':=[S<|ttl<|i+1,aR 3 []]) ⟨fvS,Oa,O⟩<|HK<|B9 _⟩,O⟩ ?_;exact fzC Z (Af V)<|fzC Z (Af V)<|fzC Z (Af V)<|fI<|fI fzN
 ·obtain rfl:i=n:=by omega
  unfold BkB0;cases i with|zero=>omega|succ i=>unfold stA;refine Wm ?_;exact hoE () O<|B6 5 ⟨frS Bq,frS Z,⟨_,Z,D3 V,Am,Am,Am,O⟩,frS Z,frS<|B9 _,O⟩<|fzC Z (Af V)<|fzC Z (Af V)<|fzC Z (Af V)<|fI fzN
def pcOf :AVal→PCl
 |aG [J _ r,J _ c,S s]=>⟨r.toNat,c.toNat,s⟩|_=>pc0
theorem DW :∀l:List PCl,(l.map pcV).map pcOf=l
 | []=>rfl|x::l=>by have:=DW l;simp only[jZ,this];rfl
def pkV :List AVal→AVal
 | [J _ c,J _ m]=>J U (Bt c m.toNat)|_=>.nilIf
def ptV :List AVal→AVal
 | [aR _ l,J _ r,J _ c,S q]=>aR 3 ((M4 (l.map pcOf) r.toNat c.toNat q).map pcV)|_=>.nilIf
def rcB (W0:World)(f:FuncId)(args:List AVal)(v:AVal):Prop:=(f=13→v=pkV args)∧(f=15→v=ptV args)∧(f=16→∃t,v=S t∧Y5 W0 t)∧(f≠13→f≠15→f≠16→False)
theorem rcPt {args:List AVal}(u:AVal):rcB W0 15 args u↔u=ptV args:=by simp[rcB]
theorem rcIn {args:List AVal}(u:AVal):rcB W0 16 args u↔∃t,u=S t∧Y5 W0 t:=by simp[rcB]
theorem rcPn {c:Int}{n:Nat}(u:AVal):rcB W0 13 [J U c,J U n] u↔u=J U (Bt c n):=by simp[rcB,pkV]
theorem rcPp {cs:List PCl}{r c:Nat}{q:Bz}(u:AVal):rcB W0 15 [aR 3<|cs.map pcV,J U r,J U c,S q] u↔u=aR 3 ((M4 cs r c q).map pcV):=by grind[rcPt,ptV,DW]
theorem cs_le {shs:List PSh}{k:Nat}(h:k<N shs):(shs.getD k ps0).cs.length≤Ef shs:=by have h1:=Ri h;grind[Xb]
def rc0 :RC:=⟨0,0,0,0,0,0,0,0,0,0,0,0,0,[],false⟩
theorem goodI7 :Y5 W0 [55]:=⟨B4,.inl ⟨λc r h=>by grind,V,Txt.plain (λi hi=>by
 have:i=0:=by have:i<1:=hi;omega
 subst this;decide) 1 0 rfl⟩⟩
def GoodC (W0:World)(x:PCl):Prop:=x.r<12∧x.c<5∧Y5 W0 x.s
def OA (n:Nat):List Bz:=(eD n).map ttl
structure ShG (W0:World)(n m:Nat)(shs:List PSh):Prop where
 ok:MW (GoodC W0) (OA n) shs
 many:Ef shs≤m
theorem ShG.len {n m:Nat}{shs:List PSh}(h:ShG W0 n m shs):N shs=n:=by rw[h.ok.len];simp[OA]
def BV (n:Nat)(nl tl:List AVal):List AVal:=[aH 2 4 0 n none,aR 3 nl,aR 6 tl,aN]
def stC (b:RB)(n:Nat)(nl tl:List AVal)(i:Nat)(shs:List PSh):St:=⟨.al [(1,aP 0 0),(2,aP 1 0),(3,aP 2 0),(4,J U n),(6,J U i)],HS b (BV n nl tl) shs,150⟩
def stD (b:RB)(n:Nat)(nl tl:List AVal)(shs:List PSh):St:=⟨.al [(1,aP 0 0),(2,aP 1 0),(3,aP 2 0),(4,J U n)],HS b (BV n nl tl) shs,150⟩
theorem oIdxR {α:Type}{f:α→AVal}{l:List α}{d:α}{s:St}{x i:AOpd}{k n:Nat}(hx:ev G s x=some (aR k<|l.map f))(hi:ev G s i=some (J U n))(hk:bK 1 k=true)(hlt:n<N l):aop G s (.idxSl k x i)=some (.val (aE (f<|l.getD n d) 0) s.H [(0,(n:Nat)),((n:Nat)+1,(N l:Nat))]):=Dn hx hi hk hlt
theorem roundB (hk:Kn W0){b:RB}(hb:OO b){n:Nat}(hn:1≤n∧n≤3){nl tl:List AVal}(hnl:A8 0 nl=true)(htl:A8 0 tl=true){K:Aj→St→Prop}(p:Nat×List PSh)(hp:p.1≤N b.cs∧p.1≤30∧ShG W0 n p.1 p.2):ExM gH W0 0 BkB1 (stC b n nl tl p.1 p.2) (hoK 0 (λp:Nat×List PSh=>stC b n nl tl p.1 p.2) (λp=>p.1≤N b.cs∧p.1≤30∧ShG W0 n p.1 p.2) (λp=>N b.cs-p.1) p 2 (λshs=>stD b n nl tl shs) (λshs=>ShG W0 n 30 shs) K):=by
 obtain⟨i,shs⟩:=p;obtain⟨h1,h2,hS⟩:=hp;simp only at h1 h2 hS⊢;have hg:=grK hk;have hcl:=hb.cl;have hlm:N (b.cs.map rcV)=N b.cs:=jY _;have hln:=hS.len;unfold BkB1 stC;by_cases hlt:i<N b.cs
 ·by_cases h30:i<30;·refine Wm ?_;refine Ac hg gN (oIdxR (f:=rcV) (d:=rc0) Z Z Z hlt) Z K7 ?_;have hc:DK (b.cs.getD i rc0)∧(b.cs.getD i rc0).vs.length≤150000000000000:=hb.cs _<|C5 hlt;generalize b.cs.getD i rc0=c at hc;have hp:=Fg hg (c:=c.sn) (n:=n) hc.1.sn.1 hc.1.sn.2 Y;have hks:=C6 (c:=c.sn) (n:=n) Y;have l12:=C6 (c:=c.rw) (n:=12) V;have l5:=C6 (c:=c.cl) (n:=5) V;have p12:=Fg hg (c:=c.rw) (n:=12) hc.1.rw.1 hc.1.rw.2 V [];have p5:=Fg hg (c:=c.cl) (n:=5) hc.1.cl.1 hc.1.cl.2 V [];have r12:=λu=>rcPn (W0:=W0) (c:=c.rw) (n:=12) u;have r5:=λu=>rcPn (W0:=W0) (c:=c.cl) (n:=5) u;generalize Bt c.sn n=k at hp hks;generalize Bt c.rw 12=r at p12 r12 l12;generalize Bt c.cl 5=cc at p5 r5 l5;have hkq:k<N shs:=Y;have hcs:=cs_le hkq;have hmn:=hS.many;refine Wm ?_;refine ExM.drawP hg (rcB W0) (λ_=>HS b (BV n nl tl) shs++[C 58 (rcL c) false]) none rfl rfl (λj h=>by cases h) ?_;refine rV Cc ?_;refine rV Cc ?_;refine rV Cc ?_;refine rV Cc ?_;refine rV Cc ?_;refine rV Cc ?_;refine rV (KQ (l:=shs) hln Z Z Z) ?_ (h':=KQ (l:=shs) hln Z Z Z);refine rV (KF (l:=shs) hln Z Z) ?_ (h':=KF (l:=shs) hln Z Z);refine rV (KA (l:=shs) hln Z Z hkq) ?_ (h':=KA (l:=shs) hln Z Z hkq);refine rV Cc ?_;refine rV Cc ?_;refine rD Cc p12 r12 ?_;refine rV Cc ?_;refine rV Cc ?_;refine rD Cc p5 r5 ?_;refine rV Cc ?_;refine rV Cc ?_;refine rV Cc ?_;refine rV Cc ?_;refine rV Cc ?_;refine rV Cc ?_;refine rC Cc ((inputE hk hc.1 hc.2 hn b.nm b.tb).mono λu hu=>(rcIn u).2 hu) rfl (λu hu=>by obtain⟨t,rfl,_⟩:=(rcIn u).1 hu;rfl) ⟨_,(rcIn _).2 ⟨[55],rfl,goodI7⟩⟩ λu hu=>?_;obtain⟨t,rfl,ht⟩:=(rcIn u).1 hu;refine rD Cc (tputP hg ht.1 Y Y Y) rcPp ?_ (hb:=by show cond (A8 0<|(shs.getD k ps0).cs.map pcV) true false=true;rw[B8];rfl) (hv:=by show A8 0 (List.map pcV _)=true;exact B8 _);refine rV (KQ (l:=shs) hln Z Z Z) ?_ (h':=KQ (l:=shs) hln Z Z Z);refine rV (KF (l:=shs) hln Z Z) ?_ (h':=KF (l:=shs) hln Z Z);refine rL (SY (l:=shs) hln Z Z Z hkq Z) ?_;refine Wm ?_;refine hoN (i+1,putS shs k r cc t) ⟨hlt,h30,hS.ok.put hkq ⟨l12,l5,ht⟩,?_⟩ ?_<|B6 5 ⟨frS Bq,frS Z,⟨_,Z,D3 V,Aq (v:=aR 3 nl) hnl,Aq (v:=aR 6 tl) htl,Am,O⟩,frS Z,frS<|B9 _,O⟩<|fzC Z (Af V)<|fzC Z (Af V)<|fzC Z (Af V)<|fI<|fI fzN;all_goals grind[OB]
  ·obtain rfl:i=30:=by omega
   refine Wm ?_;exact hoE shs hS<|B6 5 ⟨frS Bq,frS Z,⟨_,Z,D3 V,Aq (v:=aR 3 nl) hnl,Aq (v:=aR 6 tl) htl,Am,O⟩,frS Z,frS<|B9 _,O⟩<|fzC Z (Af V)<|fzC Z (Af V)<|fzC Z (Af V)<|fI fzN
 ·obtain rfl:i=N b.cs:=by omega
  refine Wm ?_;exact hoE shs ⟨hS.ok,bI hS.many h2⟩<|B6 5 ⟨frS Bq,frS Z,⟨_,Z,D3 V,Aq (v:=aR 3 nl) hnl,Aq (v:=aR 6 tl) htl,Am,O⟩,frS Z,frS<|B9 _,O⟩<|fzC Z (Af V)<|fzC Z (Af V)<|fzC Z (Af V)<|fI fzN
structure PRl where
 a:Int
 b:Int
 c:Int
 d:Int
 e:Int
 f:Bz
 g:Int
 h:Bool
def rlV (r:PRl):AVal:=aG [J U r.a,J U r.b,J U r.c,J U r.d,J U r.e,S r.f,J U r.g,I r.h]
def rl0 :PRl:=⟨0,0,0,0,0,[],0,false⟩
theorem Cj {n:Nat}:∀l:List PRl,A8 n (l.map rlV)=true
 | []=>rfl|_::l=>Cj l
def wbV (shs:List PSh)(nl tl:List AVal)(rs:List PRl):AVal:=aG [aR 2<|shs.map psV,aR 3 nl,aR 6 tl,aR 8<|rs.map rlV]
theorem P0 {n:Nat}{shs:List PSh}{nl tl:List AVal}{rs:List PRl}(h1:∀n,A8 n nl=true)(h2:∀n,A8 n tl=true):A8 n [aR 2<|shs.map psV,aR 3 nl,aR 6 tl,aR 8<|rs.map rlV]=true:=by show cond (A8 n<|shs.map psV) (cond (A8 n nl) (cond (A8 n tl) (cond (A8 n<|rs.map rlV) true false) false) false) false=true;grind[Av,Cj]
theorem oCutM {α:Type}{f:α→AVal}{l:List α}{s:St}{x b:AOpd}{k n:Nat}(hx:ev G s x=some (aR k<|l.map f))(hb:ev G s b=some (J U n))(h:n≤N l):aop G s (.cutSl k x none<|some b)=some (.val (aR k<|(l.take n).map f) s.H (Di k (l.map f) none<|some ((n:Nat):Int)).2):=by simp_all[Di,aop,oev]
theorem checkG (hg:hGr W0 G){shs:List PSh}{nl tl:List AVal}{rs:List PRl}(hn:∀n,A8 n nl=true)(ht:∀n,A8 n tl=true)(hs1:1≤N shs)(hs8:N shs≤8)(hm:Ef shs≤400)(hnl:N nl≤40)(htl:N tl≤10)(hrl:N rs≤20)
 (hname:∀i,i<N shs→(shs.getD i ps0).nm≠[]∧cP W0 38 [aG [S (shs.getD i ps0).nm,J U 0,J U 0,I false,I false,I false]] [] (I true) []∧cP W0 39 [aR 2<|(shs.take i).map psV,S (shs.getD i ps0).nm,.fn 40 [] []] [] (I false) [])
 (hcell:∀i,i<N shs→∀j,j<(shs.getD i ps0).cs.length→((shs.getD i ps0).cs.getD j pc0).r<200∧((shs.getD i ps0).cs.getD j pc0).c<52∧cP W0 41 [S ((shs.getD i ps0).cs.getD j pc0).s] [] (I true) []∧∀m,j=m+1→((shs.getD i ps0).cs.getD m pc0).r<((shs.getD i ps0).cs.getD j pc0).r∨((shs.getD i ps0).cs.getD m pc0).r=((shs.getD i ps0).cs.getD j pc0).r∧((shs.getD i ps0).cs.getD m pc0).c<((shs.getD i ps0).cs.getD j pc0).c)
 (hnamed:∀i,i<N nl→cP W0 43 [wbV shs nl tl rs,J U i] [] (I true) [])
 (htable:∀i,i<N tl→cP W0 44 [wbV shs nl tl rs,J U i] [] (I true) [])
 (hrule:∀i,i<N rs→cP W0 45 [wbV shs nl tl rs,rlV<|rs.getD i rl0] [] (I true) []):
 cP W0 18 [wbV shs nl tl rs] [] (aU [aG z7L,J U 0]) []:=by
 have hA:A8 0 [aG [aR 2<|shs.map psV,aR 3 nl,aR 6 tl,aR 8<|rs.map rlV]]=true:=by show cond (A8 0 [aR 2<|shs.map psV,aR 3 nl,aR 6 tl,aR 8<|rs.map rlV]) true false=true;grind[P0]
 have hB:∀i:Nat,A8 0 [aG [aR 2<|shs.map psV,aR 3 nl,aR 6 tl,aR 8<|rs.map rlV],J U i]=true:=λi=>by show cond (A8 0 [aR 2<|shs.map psV,aR 3 nl,aR 6 tl,aR 8<|rs.map rlV]) true false=true;grind[P0]
 have hR:∀i:Nat,A8 0 [aG [aR 2<|shs.map psV,aR 3 nl,aR 6 tl,aR 8<|rs.map rlV],rlV<|rs.getD i rl0]=true:=λi=>by show cond (A8 0 [aR 2<|shs.map psV,aR 3 nl,aR 6 tl,aR 8<|rs.map rlV]) true false=true;grind[P0]
 have hC:∀n,A8 n [aR 3 nl,aR 6 tl,aR 8<|rs.map rlV]=true:=λn=>by show cond (A8 n nl) (cond (A8 n tl) (cond (A8 n<|rs.map rlV) true false) false) false=true;grind[Cj]
 unfold wbV at hnamed htable hrule⊢;refine goM 18 183 ?_;refine sO<|mV (v:=aP 0 0) Z<|mV (v:=aP 1 0) Z<|x1 Z<|sq<|sO<|m2 Z Z<|mV (v:=J U<|N shs) (Hy Z)<|mF Z<|m3 Z Z Z<|mV (v:=J U<|N shs) (Hy Z)<|mF Z<|m2 Z Z<|mV (v:=aG [aR 2<|shs.map psV,aR 3 nl,aR 6 tl,aR 8<|rs.map rlV]) Z<|mC Z (hO hA Z (manyP hg hC Y Y) _)<|mF Z<|m4 Z Z Z Z<|mV (v:=J U<|N nl) Z<|mF Z<|m4 Z Z Z Z<|mV (v:=J U<|N tl) Z<|mF Z<|m4 Z Z Z Z<|mV (v:=J U<|N rs) (Hy Z)<|mF Z<|x1 Z<|cF Z<|kM<|sq<|sO<|m2 Z Z<|mV (v:=J U<|N shs) (Hy Z)<|x1 Z<|bM ?_;refine jT (σ:=Nat) (τ:=Unit) (λi=>⟨.al [(1,aP 0 0),(2,aP 1 0),(49,aR 2<|shs.map psV),(50,J U<|N shs),(51,J U i)],[C 31 [aR 2<|shs.map psV,aR 3 nl,aR 6 tl,aR 8<|rs.map rlV] false,C 66 z7L false],183⟩) (λi=>i≤N shs) (λi=>N shs-i) 0 0 (λ_=>⟨.al [(1,aP 0 0),(2,aP 1 0)],[C 31 [aR 2<|shs.map psV,aR 3 nl,aR 6 tl,aR 8<|rs.map rlV] false,C 66 z7L false],183⟩) (λ_=>True) (Ap Z Z<|sb4 Z Z Z Z<|(((sbC Z<|sbN)))) (hZ _) ?_ ?_
 ·rintro i hi;have hi:i≤N shs:=hi;by_cases hlt:i<N shs;·obtain⟨n1,n2,n3⟩:=hname i hlt;refine sO<|mT Z<|mn<|sq<|cT Z<|kM<|sq<|bM<|sO<|mV Z<|mS (v:=aE (psV<|shs.getD i ps0) 0) (Dn Z Z Z hlt)<|mV Z<|mV (v:=aP 2 0) Z<|mV Z<|Ai hg gN Z<|mn<|sq ?_;refine iV hg ?_;refine qV Z<|qV Z<|qBk (c:=false) Z Z (by grind)<|qV Z<|qGY Z<|qV Z<|qGY Z<|qV Z<|qGY Z<|qV Z<|qGY Z<|Cd Z Z (hO Z Z n2 _) ?_;refine qGY Z<|Ao Z Z O<|Ao Z Z O<|Ao Z Z O<|qGY Z<|Ao Z Z O<|qGY Z<|Ao Z Z O<|qGY Z<|Ao Z Z O<|qGY Z<|Ao (v:=aR 2<|(shs.take i).map psV) (oCutM Z Z Y) Z (by simp_all[Di,Ah])<|?_;refine qGY Z<|Ao Z Z O<|qGY Z<|Ao Z Z O<|qGY Z<|Cd Z Z (hO (by show cond (A8 0<|(shs.take i).map psV) _ false=true;rw[Av];rfl) Z n3 _)<|Ao Z Z O<|Dx<|?_;refine cF Z<|kM<|oM ?_;refine mFz (s1:=⟨.al [(1,aP 0 0),(2,aP 1 0),(49,aR 2<|shs.map psV),(50,J U<|N shs),(51,J U i)],[C 31 [aR 2<|shs.map psV,aR 3 nl,aR 6 tl,aR 8<|rs.map rlV] false,C 66 z7L false],183⟩) (As 2 Z (hZ _) Z (by show cond (A8 2 [aR 2<|shs.map psV,aR 3 nl,aR 6 tl,aR 8<|rs.map rlV]) true false=true;grind[P0])<|fzC Z (Ji V)<|fzC Z (Ji V)<|fzC Z (Aq<|Av _)<|fI<|fI fzN) ?_;refine mI ((i+1:Nat):Int) Z<|x1 Z ?_;exact⟨(i+1),(Y:i+1≤N shs),Y,Ap Z Z<|sb4 Z Z Z Z<|(((sbC Z<|sbN)))⟩
  ·refine sO<|mF Z<|mn<|sq<|cF Z ?_;exact iN<|.inl ⟨Z,(),O,Ap Z Z<|sbC Z<|sbC Z<|sbN⟩
 ·rintro _ s' hJ hs;refine jU hs ?_;refine sq<|sO<|m2 Z Z<|mV (v:=J U<|N shs) (Hy Z)<|x1 Z<|bM ?_;refine jT (σ:=Nat) (τ:=Unit) (λi=>⟨.al [(1,aP 0 0),(2,aP 1 0),(79,aR 2<|shs.map psV),(80,J U<|N shs),(81,J U i)],[C 31 [aR 2<|shs.map psV,aR 3 nl,aR 6 tl,aR 8<|rs.map rlV] false,C 66 z7L false],183⟩) (λi=>i≤N shs) (λi=>N shs-i) 0 2 (λ_=>⟨.al [(1,aP 0 0),(2,aP 1 0)],[C 31 [aR 2<|shs.map psV,aR 3 nl,aR 6 tl,aR 8<|rs.map rlV] false,C 66 z7L false],183⟩) (λ_=>True) (Ap Z Z<|sb4 Z Z Z Z<|(((sbC Z<|sbN)))) (hZ _) ?_ ?_
  ·rintro i hi;have hi:i≤N shs:=hi;by_cases hlt:i<N shs
   ·have hcl:(shs.getD i ps0).cs.length≤400:=by have:=Ri hlt;grind[Xb]
    refine sO<|mT Z<|mn<|sq<|cT Z<|kM<|sq<|bM<|sO<|mV Z<|mS (v:=aE (psV<|shs.getD i ps0) 0) (Dn Z Z Z hlt)<|mV Z<|mV (v:=aP 2 0) Z<|mV Z<|Ai hg gN Z<|mn<|sO<|m2 Z Z<|mV (v:=J U<|(shs.getD i ps0).cs.length) (Hy Z)<|x1 Z<|bM ?_;refine jT (σ:=Nat) (τ:=Unit) (λj=>⟨.al [(1,aP 0 0),(2,aP 1 0),(79,aR 2<|shs.map psV),(80,J U<|N shs),(81,J U i),(6,J U i),(7,aP 2 0),(87,aR 3<|(shs.getD i ps0).cs.map pcV),(88,J U<|(shs.getD i ps0).cs.length),(89,J U j)],[C 31 [aR 2<|shs.map psV,aR 3 nl,aR 6 tl,aR 8<|rs.map rlV] false,C 66 z7L false,C 44 [S (shs.getD i ps0).nm,aR 3<|(shs.getD i ps0).cs.map pcV] false],183⟩) (λj=>j≤(shs.getD i ps0).cs.length) (λj=>(shs.getD i ps0).cs.length-j) 0 4 (λ_=>⟨.al [(1,aP 0 0),(2,aP 1 0),(79,aR 2<|shs.map psV),(80,J U<|N shs),(81,J U i)],[C 31 [aR 2<|shs.map psV,aR 3 nl,aR 6 tl,aR 8<|rs.map rlV] false,C 66 z7L false,C 44 [S (shs.getD i ps0).nm,aR 3<|(shs.getD i ps0).cs.map pcV] false],183⟩) (λ_=>True) (Ap Z Z<|sb4 Z Z Z Z<|(((sb4 Z Z Z Z<|(((sbC Z<|sbC Z<|sbN))))))) (hZ _) ?_ ?_
    ·rintro j hj;have hj:j≤(shs.getD i ps0).cs.length:=hj;by_cases hjl:j<(shs.getD i ps0).cs.length;·obtain⟨c1,c2,c3,c4⟩:=hcell i hlt j hjl;cases j with|zero=>refine sO<|mT Z<|mn<|sq<|cT Z<|kM<|sq<|bM<|sO<|mV Z<|mS (v:=aE (pcV<|(shs.getD i ps0).cs.getD 0 pc0) 0) (Dn Z Z Z hjl)<|mV Z<|mV (v:=aP 3 0) Z<|mV Z<|Ai hg gN Z<|mn<|sq ?_;refine iV hg ?_;refine qV Z<|qV Z<|qBk (c:=false) Z Z (dF Y)<|qV Z<|qGY Z<|qV Z<|qGY Z<|qV Z<|qGY Z<|qBk (c:=false) Z Z (dF Y)<|qV Z<|qV Z ?_;refine qGY Z<|Ao Z Z O<|qGY Z<|Ao Z Z O<|qGY Z<|qBk (c:=false) Z Z (dF Y)<|Ao Z Z O<|Ao Z Z O<|qGY Z<|Ao Z Z O<|qGY Z<|Ao Z Z O<|?_;refine qGY Z<|qBk (c:=false) Z Z (dF Y)<|Ao Z Z O<|Ao Z Z O<|qGY Z<|Ao Z Z O<|qGY Z<|Ao Z Z O<|qGY Z<|Cd Z Z (hO Z Z c3 _)<|qGY Z<|Ao Z Z O<|?_;refine qV Z<|qV Z<|qGY Z<|qV Z<|qGY Z<|qBk (c:=false) Z Z Z<|qGY Z<|qV Z<|qGN Z Z<|qGN Z Z<|qGN Z Z<|qGN Z Z<|qGN Z Z<|qGN Z Z<|qGN Z Z<|qGN Z Z<|qGN Z Z<|qGY Z<|qV Z<|qV Z<|Dx<|ExM.condF hg Z<|ExM.skip<|iM hg ?_;refine mFz (s1:=⟨.al [(1,aP 0 0),(2,aP 1 0),(79,aR 2<|shs.map psV),(80,J U<|N shs),(81,J U i),(6,J U i),(7,aP 2 0),(87,aR 3<|(shs.getD i ps0).cs.map pcV),(88,J U<|(shs.getD i ps0).cs.length),(89,J U (0:Nat))],[C 31 [aR 2<|shs.map psV,aR 3 nl,aR 6 tl,aR 8<|rs.map rlV] false,C 66 z7L false,C 44 [S (shs.getD i ps0).nm,aR 3<|(shs.getD i ps0).cs.map pcV] false],183⟩) (As 3 Z (hZ _) Z bY46<|fzC Z (Ji V)<|fzC Z (Ji V)<|fzC Z (Aq<|Av _)<|fI<|fI<|fI<|fzC Z (Ji V)<|fzC Z (Aq<|B8 _)<|fI<|fI fzN) ?_;refine mI ((0+1:Nat):Int) Z<|x1 Z ?_;exact⟨(0+1),(Y:0+1≤(shs.getD i ps0).cs.length),Y,Ap Z Z<|sb4 Z Z Z Z<|(((sb4 Z Z Z Z<|(((sbC Z<|sbC Z<|sbN))))))⟩|succ m=>refine sO<|mT Z<|mn<|sq<|cT Z<|kM<|sq<|bM<|sO<|mV Z<|mS (v:=aE (pcV<|(shs.getD i ps0).cs.getD (m+1) pc0) 0) (Dn Z Z Z hjl)<|mV Z<|mV (v:=aP 3 0) Z<|mV Z<|Ai hg gN Z<|mn<|sq ?_;refine iV hg ?_;refine qV Z<|qV Z<|qBk (c:=false) Z Z (dF Y)<|qV Z<|qGY Z<|qV Z<|qGY Z<|qV Z<|qGY Z<|qBk (c:=false) Z Z (dF Y)<|qV Z<|qV Z ?_;refine qGY Z<|Ao Z Z O<|qGY Z<|Ao Z Z O<|qGY Z<|qBk (c:=false) Z Z (dF Y)<|Ao Z Z O<|Ao Z Z O<|qGY Z<|Ao Z Z O<|qGY Z<|Ao Z Z O<|?_;refine qGY Z<|qBk (c:=false) Z Z (dF Y)<|Ao Z Z O<|Ao Z Z O<|qGY Z<|Ao Z Z O<|qGY Z<|Ao Z Z O<|qGY Z<|Cd Z Z (hO Z Z c3 _)<|qGY Z<|Ao Z Z O<|?_;refine qV Z<|qV Z<|qGY Z<|qV Z<|qGY Z<|qBk (c:=true) Z Z (by grind)<|qGY Z<|qV Z<|qGY Z<|qV Z<|qGY Z<|qV Z ?_;refine qGY Z<|Ao Z Z O<|qGY Z<|qKv (v:=J U m) Z Z O (Bw Y Y Y)<|qGY Z<|Ao (v:=aE (pcV<|(shs.getD i ps0).cs.getD m pc0) 0) (Dn Z Z Z Y) Z bY111<|qGY Z<|Ao Z Z O<|qGY Z<|Ao Z Z O<|qGY Z<|Cd Z Z (hO Z Z (by have h:=orderP hg (a:=(shs.getD i ps0).cs.getD m pc0) (b:=((shs.getD i ps0).cs.getD (m+1) pc0));rw[ordI_lt<|c4 m Z]at h;exact h) _)<|?_;refine qGY Z<|qBk (c:=false) Z Z Z<|qGY Z<|Ao Z Z O<|Ao Z Z O<|Dx<|?_;refine cF Z<|kM<|oM ?_;refine mFz (s1:=⟨.al [(1,aP 0 0),(2,aP 1 0),(79,aR 2<|shs.map psV),(80,J U<|N shs),(81,J U i),(6,J U i),(7,aP 2 0),(87,aR 3<|(shs.getD i ps0).cs.map pcV),(88,J U<|(shs.getD i ps0).cs.length),(89,J U (m+1:Nat))],[C 31 [aR 2<|shs.map psV,aR 3 nl,aR 6 tl,aR 8<|rs.map rlV] false,C 66 z7L false,C 44 [S (shs.getD i ps0).nm,aR 3<|(shs.getD i ps0).cs.map pcV] false],183⟩) (As 3 Z (hZ _) Z bY46<|fzC Z (Ji V)<|fzC Z (Ji V)<|fzC Z (Aq<|Av _)<|fI<|fI<|fI<|fzC Z (Ji V)<|fzC Z (Aq<|B8 _)<|fI<|fI fzN) ?_;refine mI (((m+1)+1:Nat):Int) Z<|x1 Z ?_;exact⟨((m+1)+1),(Y:(m+1)+1≤(shs.getD i ps0).cs.length),Y,Ap Z Z<|sb4 Z Z Z Z<|(((sb4 Z Z Z Z<|(((sbC Z<|sbC Z<|sbN))))))⟩
     ·refine sO<|mF Z<|mn<|sq<|cF Z ?_;exact iN<|.inl ⟨Z,(),O,Ap Z Z<|sb4 Z Z Z Z<|(((sbC Z<|sbN)))⟩
    ·rintro _ s' hJ hs;refine jU hs ?_;refine oM ?_;refine mFz (s1:=⟨.al [(1,aP 0 0),(2,aP 1 0),(79,aR 2<|shs.map psV),(80,J U<|N shs),(81,J U i)],[C 31 [aR 2<|shs.map psV,aR 3 nl,aR 6 tl,aR 8<|rs.map rlV] false,C 66 z7L false],183⟩) (As 2 Z (hZ _) Z (by show cond (A8 2 [aR 2<|shs.map psV,aR 3 nl,aR 6 tl,aR 8<|rs.map rlV]) true false=true;grind[P0])<|fzC Z (Ji V)<|fzC Z (Ji V)<|fzC Z (Aq<|Av _)<|fI<|fI fzN) ?_;refine mI ((i+1:Nat):Int) Z<|x1 Z ?_;exact⟨(i+1),(Y:i+1≤N shs),Y,Ap Z Z<|sb4 Z Z Z Z<|(((sbC Z<|sbN)))⟩
   ·refine sO<|mF Z<|mn<|sq<|cF Z ?_;exact iN<|.inl ⟨Z,(),O,Ap Z Z<|sbC Z<|sbC Z<|sbN⟩
  ·rintro _ s' hJ hs;refine jU hs ?_;refine sq<|sO<|m2 Z Z<|mV (v:=J U<|N nl) Z<|x1 Z<|bM ?_;refine jT (σ:=Nat) (τ:=Unit) (λi=>⟨.al [(1,aP 0 0),(2,aP 1 0),(143,J U<|N nl),(144,J U i)],[C 31 [aR 2<|shs.map psV,aR 3 nl,aR 6 tl,aR 8<|rs.map rlV] false,C 66 z7L false],183⟩) (λi=>i≤N nl) (λi=>N nl-i) 0 6 (λ_=>⟨.al [(1,aP 0 0),(2,aP 1 0)],[C 31 [aR 2<|shs.map psV,aR 3 nl,aR 6 tl,aR 8<|rs.map rlV] false,C 66 z7L false],183⟩) (λ_=>True) (Ap Z Z<|sb4 Z Z Z Z<|(((sbN)))) (hZ _) ?_ ?_
   ·rintro i hi;have hi:i≤N nl:=hi;by_cases hlt:i<N nl;·refine sO<|mT Z<|mn<|sq<|cT Z<|kM<|sq<|bM<|sO<|x2 Z Z<|sO<|m2 Z Z<|mC Z (hO (hB i) Z (hnamed i hlt) _)<|x1 Z<|cF Z<|kM<|oM<|mI ((i+1:Nat):Int) Z<|x1 Z ?_;exact⟨(i+1),(Y:i+1≤N nl),Y,Ap Z Z<|sb4 Z Z Z Z<|(((sbN)))⟩
    ·refine sO<|mF Z<|mn<|sq<|cF Z ?_;exact iN<|.inl ⟨Z,(),O,Ap Z Z<|sbC Z<|sbC Z<|sbN⟩
   ·rintro _ s' hJ hs;refine jU hs ?_;refine sq<|sO<|m2 Z Z<|mV (v:=J U<|N tl) Z<|x1 Z<|bM ?_;refine jT (σ:=Nat) (τ:=Unit) (λi=>⟨.al [(1,aP 0 0),(2,aP 1 0),(156,J U<|N tl),(157,J U i)],[C 31 [aR 2<|shs.map psV,aR 3 nl,aR 6 tl,aR 8<|rs.map rlV] false,C 66 z7L false],183⟩) (λi=>i≤N tl) (λi=>N tl-i) 0 8 (λ_=>⟨.al [(1,aP 0 0),(2,aP 1 0)],[C 31 [aR 2<|shs.map psV,aR 3 nl,aR 6 tl,aR 8<|rs.map rlV] false,C 66 z7L false],183⟩) (λ_=>True) (Ap Z Z<|sb4 Z Z Z Z<|(((sbN)))) (hZ _) ?_ ?_
    ·rintro i hi;have hi:i≤N tl:=hi;by_cases hlt:i<N tl;·refine sO<|mT Z<|mn<|sq<|cT Z<|kM<|sq<|bM<|sO<|x2 Z Z<|sO<|m2 Z Z<|mC Z (hO (hB i) Z (htable i hlt) _)<|x1 Z<|cF Z<|kM<|oM<|mI ((i+1:Nat):Int) Z<|x1 Z ?_;exact⟨(i+1),(Y:i+1≤N tl),Y,Ap Z Z<|sb4 Z Z Z Z<|(((sbN)))⟩
     ·refine sO<|mF Z<|mn<|sq<|cF Z ?_;exact iN<|.inl ⟨Z,(),O,Ap Z Z<|sbC Z<|sbC Z<|sbN⟩
    ·rintro _ s' hJ hs;refine jU hs ?_;refine sq<|sO<|m2 Z Z<|mV (v:=J U<|N rs) (Hy Z)<|x1 Z<|bM ?_;refine jT (σ:=Nat) (τ:=Unit) (λi=>⟨.al [(1,aP 0 0),(2,aP 1 0),(168,aR 8<|rs.map rlV),(169,J U<|N rs),(170,J U i)],[C 31 [aR 2<|shs.map psV,aR 3 nl,aR 6 tl,aR 8<|rs.map rlV] false,C 66 z7L false],183⟩) (λi=>i≤N rs) (λi=>N rs-i) 0 10 (λ_=>⟨.al [(1,aP 0 0),(2,aP 1 0)],[C 31 [aR 2<|shs.map psV,aR 3 nl,aR 6 tl,aR 8<|rs.map rlV] false,C 66 z7L false],183⟩) (λ_=>True) (Ap Z Z<|sb4 Z Z Z Z<|(((sbC Z<|sbN)))) (hZ _) ?_ ?_
     ·rintro i hi;have hi:i≤N rs:=hi;by_cases hlt:i<N rs;·refine sO<|mT Z<|mn<|sq<|cT Z<|kM<|sq<|bM<|sO<|mV Z<|mS (v:=aE (rlV<|rs.getD i rl0) 0) (Dn Z Z Z hlt)<|mV Z<|mV (v:=aP 2 0) Z<|mV Z<|Ai hg gN Z<|mn<|sO<|m2 Z Z<|mC Z (hO (hR i) Z (hrule i hlt) _)<|x1 Z<|cF Z<|kM<|oM ?_;refine mFz (s1:=⟨.al [(1,aP 0 0),(2,aP 1 0),(168,aR 8<|rs.map rlV),(169,J U<|N rs),(170,J U i)],[C 31 [aR 2<|shs.map psV,aR 3 nl,aR 6 tl,aR 8<|rs.map rlV] false,C 66 z7L false],183⟩) (As 2 Z (hZ _) Z (by show cond (A8 2 [aR 2<|shs.map psV,aR 3 nl,aR 6 tl,aR 8<|rs.map rlV]) true false=true;grind[P0])<|fzC Z (Ji V)<|fzC Z (Ji V)<|fzC Z (Aq<|Cj _)<|fI<|fI fzN) ?_;refine mI ((i+1:Nat):Int) Z<|x1 Z ?_;exact⟨(i+1),(Y:i+1≤N rs),Y,Ap Z Z<|sb4 Z Z Z Z<|(((sbC Z<|sbN)))⟩
      ·refine sO<|mF Z<|mn<|sq<|cF Z ?_;exact iN<|.inl ⟨Z,(),O,Ap Z Z<|sbC Z<|sbC Z<|sbN⟩
     ·rintro _ s' hJ hs;refine jU hs ?_;refine sO<|mV Z<|Ai hg gN Z<|x1 Z ?_;exact iL<|pL
def rlL (r:PRl):List AVal:=[J U r.a,J U r.b,J U r.c,J U r.d,J U r.e,S r.f,J U r.g,I r.h]
def rlC (l:List PRl):List AVal:=l.flatMap rlL
theorem S3 :∀l:List PRl,N (rlC l)=N l*8
 | []=>rfl|x::l=>by have:=S3 l;grind[rlC,List.length_cons,rlL]
theorem rlC_app (l k:List PRl):rlC (l++k)=rlC l++rlC k:=by simp[rlC]
theorem I2 {n:Nat}:∀l:List PRl,A8 n (rlC l)=true
 | []=>rfl|x::l=>I2 l
structure Yb (W0:World)(n:Nat)(r:PRl):Prop where
 a:0≤r.a∧r.a<n
 b:0≤r.b∧r.b<8
 c:0≤r.c∧r.c<5
 d:1≤r.d∧r.d≤4
 e:1≤r.e∧r.e≤3
 f:Qm W0 r.f
 g:r.h=true∧r.g=0∨r.h=false∧1≤r.g∧r.g≤99
def HR (b:RB)(n:Nat)(nl tl:List AVal)(shs:List PSh)(c:RC)(r:PRl)(l:List PRl):Hz:=match l with
 | []=>HS b [aH 2 4 0 n none,aR 3 nl,aR 6 tl,aN] shs|x::q=>HS b [aH 2 4 0 n none,aR 3 nl,aR 6 tl,aH 8 8 0 (N (x::q)) none] shs++[C 58 (rcL c) false,C 64 (rlL r) false,C 64 (rlL r) false,C 64 (rlC (x::q)) true]
def stE (b:RB)(n:Nat)(nl tl:List AVal)(shs:List PSh)(p:Nat×RC×PRl×List PRl):St:=⟨.al [(1,aP 0 0),(2,aP 1 0),(3,aP 2 0),(4,J U n),(9,J U p.1)],HR b n nl tl shs p.2.1 p.2.2.1 p.2.2.2,150⟩
def stF (b:RB)(n:Nat)(nl tl:List AVal)(shs:List PSh)(p:RC×PRl×List PRl):St:=⟨.al [(1,aP 0 0),(2,aP 1 0),(3,aP 2 0)],HR b n nl tl shs p.1 p.2.1 p.2.2,150⟩
theorem oAppR {s:St}{x y:AOpd}{l:List PRl}{q:PRl}{vd:Nat}{c c':Option Nat}{H':Hz}(hx:ev G s x=some (aH 8 8 0 (N l) c))(hy:ev G s y=some (aH 8 vd 0 1 c'))(hj:s.H[8]?=some (C 64 (rlC l) true))(hv:s.H[vd]?=some (C 64 (rlL q) false))(hH:s.H.set 8 (C 64 (rlC<|l++[q]) true)=H'):
 aop G s (.append 64 8 72 x y)=some (.val (aH 8 8 0 (N l+1) none) H' [(((N l+1)*72:Nat),C0),((N l+1:Nat),C0)]):=by
 subst hH;have hl:aA (N l*8) (N<|rlC l)=true:=by rw[S3];simp_all
 have hy':Cm 8 s.H (aH 8 vd 0 1 c')=some (rlL q,1):=by simp only[Cm,hv];rfl
 rw[rlC_app];simp only[aop,hx,hy,P4,hy',G6,hj,hl,fY,cond_true,kC];rfl
def rcR (W0:World)(f:FuncId)(args:List AVal)(v:AVal):Prop:=(f=13→v=pkV args)∧(f=17→∃t,v=S t∧Qm W0 t)∧(f≠13→f≠17→False)
theorem GB {args:List AVal}(u:AVal):rcR W0 17 args u↔∃t,u=S t∧Qm W0 t:=by simp[rcR]
theorem JC {c:Int}{n:Nat}(u:AVal):rcR W0 13 [J U c,J U n] u↔u=J U (Bt c n):=by simp[rcR,pkV]
set_option maxHeartbeats 8000000 in
theorem roundC (hk:Kn W0){b:RB}(hb:OO b){n:Nat}(hn:1≤n∧n≤3){nl tl:List AVal}(hnl:A8 0 nl=true)(htl:A8 0 tl=true){shs:List PSh}{K:Aj→St→Prop}(p:Nat×RC×PRl×List PRl)(hp:p.1≤N b.rs∧p.1≤4∧N p.2.2.2=p.1∧∀r∈p.2.2.2,Yb W0 n r):ExM Tryz.prog W0 0 BkB2 (stE b n nl tl shs p) (hoK 0 (stE b n nl tl shs) (λp:Nat×RC×PRl×List PRl=>p.1≤N b.rs∧p.1≤4∧N p.2.2.2=p.1∧∀r∈p.2.2.2,Yb W0 n r) (λp=>N b.rs-p.1) p 4 (stF b n nl tl shs) (λp=>N p.2.2≤4∧∀r∈p.2.2,Yb W0 n r) K):=by
 obtain⟨j,c0,r0,rs⟩:=p;obtain⟨h1,h2,h3,h4⟩:=hp;simp only at h1 h2 h3 h4⊢;have hg:=grK hk;have hcl:=hb.rl;have hlm:N (b.rs.map rcV)=N b.rs:=List.length_map _;unfold BkB2;by_cases hlt:j<N b.rs
 ·by_cases h30:j<4
  ·have hc:DK (b.rs.getD j rc0)∧(b.rs.getD j rc0).vs.length≤150000000000000:=hb.rs _<|C5 hlt;have hidx:=λ(s:St) (x i:AOpd) hx hi=>oIdxR (G:=GL) (f:=rcV) (l:=b.rs) (d:=rc0) (s:=s) (x:=x) (i:=i) (k:=15) (n:=j) hx hi Z hlt;generalize b.rs.getD j rc0=c at hc hidx;obtain⟨hc,hcv⟩:=hc;obtain⟨t0,hft,hgt⟩:=FR hk hc hn b.nm b.tb;have lpn:=C6 (c:=c.sn) (n:=n) Y;have cpn:=Fg hg (c:=c.sn) (n:=n) hc.sn.1 hc.sn.2 Y [];have rpn:=λu=>JC (W0:=W0) (c:=c.sn) (n:=n) u;have lp8:=C6 (c:=c.rw) (n:=8) Y;have cp8:=Fg hg (c:=c.rw) (n:=8) hc.rw.1 hc.rw.2 Y [];have rp8:=λu=>JC (W0:=W0) (c:=c.rw) (n:=8) u;have lp5:=C6 (c:=c.cl) (n:=5) Y;have cp5:=Fg hg (c:=c.cl) (n:=5) hc.cl.1 hc.cl.2 Y [];have rp5:=λu=>JC (W0:=W0) (c:=c.cl) (n:=5) u;have lp4:=C6 (c:=c.a0) (n:=4) Y;have cp4:=Fg hg (c:=c.a0) (n:=4) hc.a0.1 hc.a0.2 Y [];have rp4:=λu=>JC (W0:=W0) (c:=c.a0) (n:=4) u;have lp3:=C6 (c:=c.a1) (n:=3) Y;have cp3:=Fg hg (c:=c.a1) (n:=3) hc.a1.1 hc.a1.2 Y [];have rp3:=λu=>JC (W0:=W0) (c:=c.a1) (n:=3) u;have lp9:=C6 (c:=c.kd) (n:=99) Y;have cp9:=Fg hg (c:=c.kd) (n:=99) hc.kd.1 hc.kd.2 Y [];have rp9:=λu=>JC (W0:=W0) (c:=c.kd) (n:=99) u;have lpm:=C6 (c:=c.a2) (n:=3) Y;have cpm:=Fg hg (c:=c.a2) (n:=3) hc.a2.1 hc.a2.2 Y [];have rpm:=λu=>JC (W0:=W0) (c:=c.a2) (n:=3) u;generalize Bt c.sn n=kpn at lpn cpn rpn;generalize Bt c.rw 8=kp8 at lp8 cp8 rp8;generalize Bt c.cl 5=kp5 at lp5 cp5 rp5;generalize Bt c.a0 4=kp4 at lp4 cp4 rp4;generalize Bt c.a1 3=kp3 at lp3 cp3 rp3;generalize Bt c.kd 99=kp9 at lp9 cp9 rp9;generalize Bt c.a2 3=kpm at lpm cpm rpm;have cM:=λH=>A5.pure (W0:=W0) (P:=Tryz.prog) Z Z cpm H;cases rs with
   |nil=>
    unfold stE HR;refine Wm ?_;refine Ac hg gN (hidx _ _ _ Z Z) Z K7 ?_;refine Wm ?_;refine ExM.fh (s1:=⟨.al [(1,aP 0 0),(2,aP 1 0),(3,aP 2 0),(4,J U n),(9,J U j),(10,aP 5 0)],HS b [aH 2 4 0 n none,aR 3 nl,aR 6 tl,aN] shs++[C 58 (rcL c) false],150⟩) (B6 6 (frC (frS Bq)<|frC (frS Z)<|frC (frO<|flC (D3 V)<|flC (Aq (v:=aR 3 nl) hnl)<|flC (Aq (v:=aR 6 tl) htl)<|flC Am flN)<|frC (frS Z)<|frC (frS<|B9 _)<|frC (frS Z) frN)<|fzC Z (Af V)<|fzC Z (Af V)<|fzC Z (Af V)<|fI<|fI<|fzC Z (Af (id:=5) (off:=0) V) fzN) ?_;refine ExM.drawP hg (rcR W0) (λbb=>cond bb (HS b [aH 2 4 0 n none,aR 3 nl,aR 6 tl,aN] shs++[C 58 (rcL c) false,C 64 z8L false])<|HS b [aH 2 4 0 n none,aR 3 nl,aR 6 tl,aN] shs++[C 58 (rcL c) false]) (some 33) rfl rfl (λj h=>by cases h;decide) ?_;refine rV Cc ?_;refine rV Cc ?_;refine rV Cc ?_;refine rD Cc cpn rpn ?_;refine rV Cc ?_;refine rV Cc ?_;refine rD Cc cp8 rp8 ?_;refine rV Cc ?_;refine rV Cc ?_;refine rD Cc cp5 rp5 ?_;refine rV Cc ?_;refine rV Cc ?_;refine rV Cc ?_;refine rD Cc cp4 rp4 ?_;refine rK (v:=J U<|1+((kp4:Nat):Int)) Cc (Bw Y Y Z) ?_;refine rV Cc ?_;refine rV Cc ?_;refine rV Cc ?_;refine rD Cc cp3 rp3 ?_;refine rK (v:=J U<|1+((kp3:Nat):Int)) Cc (Bw Y Y Z) ?_;refine rV Cc ?_;refine rV Cc ?_;refine rV Cc ?_;refine rV Cc ?_;refine rV Cc ?_;refine rV Cc ?_;refine rV Cc ?_;refine rC Cc ((Aw.of hft).mono λu hu=>(GB u).2 ⟨t0,hu,hgt⟩) rfl (λu hu=>by obtain⟨t,rfl,_⟩:=(GB u).1 hu;rfl) ⟨_,(GB _).2 ⟨t0,rfl,hgt⟩⟩ λu hu=>?_;obtain⟨t,rfl,ht⟩:=(GB u).1 hu;refine rV Cc ?_;refine rV Cc ?_;refine rD Cc cp9 rp9 ?_;refine rK (v:=J U<|1+((kp9:Nat):Int)) Cc (Bw Y Y Z) ?_;refine rV Cc ?_;refine rA Z ?_;refine rL Cc ?_;refine kN ?_;refine ExM.fh (s1:=⟨.al [(1,aP 0 0),(2,aP 1 0),(3,aP 2 0),(4,J U n),(9,J U j),(10,aP 5 0),(11,aP 6 0)],HS b [aH 2 4 0 n none,aR 3 nl,aR 6 tl,aN] shs++[C 58 (rcL c) false,C 64 [J U kpn,J U kp8,J U kp5,J U<|1+((kp4:Nat):Int),J U<|1+((kp3:Nat):Int),S t,J U<|1+((kp9:Nat):Int),I false] false],150⟩) (B6 7 (frC (frS Bq)<|frC (frS Z)<|frC (frO<|flC (D3 V)<|flC (Aq (v:=aR 3 nl) hnl)<|flC (Aq (v:=aR 6 tl) htl)<|flC Am flN)<|frC (frS Z)<|frC (frS<|B9 _)<|frC (frS Z)<|frC (frS (cs:=[J U kpn,J U kp8,J U kp5,J U<|1+((kp4:Nat):Int),J U<|1+((kp3:Nat):Int),S t,J U<|1+((kp9:Nat):Int),I false]) Z) frN)<|fzC Z (Af V)<|fzC Z (Af V)<|fzC Z (Af V)<|fI<|fI<|fzC Z (Af (id:=5) (off:=0) V)<|fzC Z (Af (id:=6) (off:=0) V) fzN) ?_;by_cases hm:kpm=1
    ·refine Wm ?_;refine mS Cc ?_;refine Wm ?_;refine mV (v:=aH 8 7 0 1<|some 1) Cc ?_;refine mS (v:=aH 8 8 0 1 none) Cc ?_ (hs:=by simp_all[Ah,C0]);refine Wm ?_;refine hoN (j+1,c,⟨(kpn:Nat),(kp8:Nat),(kp5:Nat),1+(kp4:Nat),1+(kp3:Nat),t,0,true⟩,[⟨(kpn:Nat),(kp8:Nat),(kp5:Nat),1+(kp4:Nat),1+(kp3:Nat),t,0,true⟩]) ⟨hlt,h30,?_,?_⟩ ?_<|B6 9 (frC (frS Bq)<|frC (frS Z)<|frC (frO<|flC (D3 V)<|flC (Aq (v:=aR 3 nl) hnl)<|flC (Aq (v:=aR 6 tl) htl)<|flC (Gy (id:=8) V B4) flN)<|frC (frS Z)<|frC (frS<|B9 _)<|frC (frS (cs:=rcL c) Z)<|frC (frS (cs:=rlL ⟨(kpn:Nat),(kp8:Nat),(kp5:Nat),1+(kp4:Nat),1+(kp3:Nat),t,0,true⟩) Z)<|frC (frS (cs:=rlL ⟨(kpn:Nat),(kp8:Nat),(kp5:Nat),1+(kp4:Nat),1+(kp3:Nat),t,0,true⟩) Z)<|frC (frS (cs:=rlL ⟨(kpn:Nat),(kp8:Nat),(kp5:Nat),1+(kp4:Nat),1+(kp3:Nat),t,0,true⟩) Z) frN)<|fzC Z (Af V)<|fzC Z (Af V)<|fzC Z (Af V)<|fI<|fI fzN;·grind
     ·intro z hz;simp only[List.mem_singleton]at hz;subst hz;exact⟨⟨by grind,by grind⟩,⟨by grind,by grind⟩,⟨by grind,by grind⟩,⟨by grind,by grind⟩,⟨by grind,by grind⟩,ht,.inl ⟨rfl,rfl⟩⟩
     omega
    ·refine Wm ?_;refine mS Cc ?_;refine Wm ?_;refine mV (v:=aH 8 7 0 1<|some 1) Cc ?_;refine mS (v:=aH 8 8 0 1 none) Cc ?_ (hs:=by simp_all[Ah,C0]);refine Wm ?_;refine hoN (j+1,c,⟨(kpn:Nat),(kp8:Nat),(kp5:Nat),1+(kp4:Nat),1+(kp3:Nat),t,1+(kp9:Nat),false⟩,[⟨(kpn:Nat),(kp8:Nat),(kp5:Nat),1+(kp4:Nat),1+(kp3:Nat),t,1+(kp9:Nat),false⟩]) ⟨hlt,h30,?_,?_⟩ ?_<|B6 9 (frC (frS Bq)<|frC (frS Z)<|frC (frO<|flC (D3 V)<|flC (Aq (v:=aR 3 nl) hnl)<|flC (Aq (v:=aR 6 tl) htl)<|flC (Gy (id:=8) V B4) flN)<|frC (frS Z)<|frC (frS<|B9 _)<|frC (frS (cs:=rcL c) Z)<|frC (frS (cs:=rlL ⟨(kpn:Nat),(kp8:Nat),(kp5:Nat),1+(kp4:Nat),1+(kp3:Nat),t,1+(kp9:Nat),false⟩) Z)<|frC (frS (cs:=rlL ⟨(kpn:Nat),(kp8:Nat),(kp5:Nat),1+(kp4:Nat),1+(kp3:Nat),t,1+(kp9:Nat),false⟩) Z)<|frC (frS (cs:=rlL ⟨(kpn:Nat),(kp8:Nat),(kp5:Nat),1+(kp4:Nat),1+(kp3:Nat),t,1+(kp9:Nat),false⟩) Z) frN)<|fzC Z (Af V)<|fzC Z (Af V)<|fzC Z (Af V)<|fI<|fI fzN;·grind
     ·intro z hz;simp only[List.mem_singleton]at hz;subst hz;exact⟨⟨by grind,by grind⟩,⟨by grind,by grind⟩,⟨by grind,by grind⟩,⟨by grind,by grind⟩,⟨by grind,by grind⟩,ht,.inr ⟨rfl,by grind,by grind⟩⟩
     omega
   |cons x q=>
    unfold stE HR;refine Wm ?_;refine Ac hg gN (hidx _ _ _ Z Z) Z K7 ?_;refine Wm ?_;refine ExM.fh (s1:=⟨.al [(1,aP 0 0),(2,aP 1 0),(3,aP 2 0),(4,J U n),(9,J U j),(10,aP 9 0)],(HS b [aH 2 4 0 n none,aR 3 nl,aR 6 tl,aH 8 8 0 (N (x::q)) none] shs++[C 58 (rcL c0) false,C 64 (rlL r0) false,C 64 (rlL r0) false,C 64 (rlC (x::q)) true])++[C 58 (rcL c) false],150⟩) (B6 10 (frC (frS Bq)<|frC (frS Z)<|frC (frO<|flC (D3 V)<|flC (Aq (v:=aR 3 nl) hnl)<|flC (Aq (v:=aR 6 tl) htl)<|flC (D3 V) flN)<|frC (frS Z)<|frC (frS<|B9 _)<|frC (frS Z)<|frC (frS Z)<|frC (frS Z)<|frC (frS<|I2 _)<|frC (frS Z) frN)<|fzC Z (Af V)<|fzC Z (Af V)<|fzC Z (Af V)<|fI<|fI<|fzC Z (Af (id:=9) (off:=0) V) fzN) ?_;refine ExM.drawP hg (rcR W0) (λbb=>cond bb ((HS b [aH 2 4 0 n none,aR 3 nl,aR 6 tl,aH 8 8 0 (N (x::q)) none] shs++[C 58 (rcL c0) false,C 64 (rlL r0) false,C 64 (rlL r0) false,C 64 (rlC (x::q)) true])++[C 58 (rcL c) false,C 64 z8L false])<|(HS b [aH 2 4 0 n none,aR 3 nl,aR 6 tl,aH 8 8 0 (N (x::q)) none] shs++[C 58 (rcL c0) false,C 64 (rlL r0) false,C 64 (rlL r0) false,C 64 (rlC (x::q)) true])++[C 58 (rcL c) false]) (some 33) rfl rfl (λj h=>by cases h;decide) ?_;refine rV Cc ?_;refine rV Cc ?_;refine rV Cc ?_;refine rD Cc cpn rpn ?_;refine rV Cc ?_;refine rV Cc ?_;refine rD Cc cp8 rp8 ?_;refine rV Cc ?_;refine rV Cc ?_;refine rD Cc cp5 rp5 ?_;refine rV Cc ?_;refine rV Cc ?_;refine rV Cc ?_;refine rD Cc cp4 rp4 ?_;refine rK (v:=J U<|1+((kp4:Nat):Int)) Cc (Bw Y Y Z) ?_;refine rV Cc ?_;refine rV Cc ?_;refine rV Cc ?_;refine rD Cc cp3 rp3 ?_;refine rK (v:=J U<|1+((kp3:Nat):Int)) Cc (Bw Y Y Z) ?_;refine rV Cc ?_;refine rV Cc ?_;refine rV Cc ?_;refine rV Cc ?_;refine rV Cc ?_;refine rV Cc ?_;refine rV Cc ?_;refine rC Cc ((Aw.of hft).mono λu hu=>(GB u).2 ⟨t0,hu,hgt⟩) rfl (λu hu=>by obtain⟨t,rfl,_⟩:=(GB u).1 hu;rfl) ⟨_,(GB _).2 ⟨t0,rfl,hgt⟩⟩ λu hu=>?_;obtain⟨t,rfl,ht⟩:=(GB u).1 hu;refine rV Cc ?_;refine rV Cc ?_;refine rD Cc cp9 rp9 ?_;refine rK (v:=J U<|1+((kp9:Nat):Int)) Cc (Bw Y Y Z) ?_;refine rV Cc ?_;refine rA Z ?_;refine rL Cc ?_;refine kN ?_;refine ExM.fh (s1:=⟨.al [(1,aP 0 0),(2,aP 1 0),(3,aP 2 0),(4,J U n),(9,J U j),(10,aP 9 0),(11,aP 10 0)],(HS b [aH 2 4 0 n none,aR 3 nl,aR 6 tl,aH 8 8 0 (N (x::q)) none] shs++[C 58 (rcL c0) false,C 64 (rlL r0) false,C 64 (rlL r0) false,C 64 (rlC (x::q)) true])++[C 58 (rcL c) false,C 64 [J U kpn,J U kp8,J U kp5,J U<|1+((kp4:Nat):Int),J U<|1+((kp3:Nat):Int),S t,J U<|1+((kp9:Nat):Int),I false] false],150⟩) (B6 11 (frC (frS Bq)<|frC (frS Z)<|frC (frO<|flC (D3 V)<|flC (Aq (v:=aR 3 nl) hnl)<|flC (Aq (v:=aR 6 tl) htl)<|flC (D3 V) flN)<|frC (frS Z)<|frC (frS<|B9 _)<|frC (frS Z)<|frC (frS Z)<|frC (frS Z)<|frC (frS<|I2 _)<|frC (frS Z)<|frC (frS (cs:=[J U kpn,J U kp8,J U kp5,J U<|1+((kp4:Nat):Int),J U<|1+((kp3:Nat):Int),S t,J U<|1+((kp9:Nat):Int),I false]) Z) frN)<|fzC Z (Af V)<|fzC Z (Af V)<|fzC Z (Af V)<|fI<|fI<|fzC Z (Af (id:=9) (off:=0) V)<|fzC Z (Af (id:=10) (off:=0) V) fzN) ?_;by_cases hm:kpm=1
    ·refine Wm ?_;refine mS Cc ?_;refine Wm ?_;refine mV (v:=aH 8 11 0 1<|some 1) Cc ?_;refine mS (v:=aH 8 8 0 (N (x::q)+1) none) (oAppR (l:=x::q) (q:=⟨(kpn:Nat),(kp8:Nat),(kp5:Nat),1+(kp4:Nat),1+(kp3:Nat),t,0,true⟩) Cc Cc Cc Cc Z) ?_ (hs:=by simp only[Ah,and_true,C0];omega);refine Wm ?_;refine hoN (j+1,c0,r0,(x::q)++[⟨(kpn:Nat),(kp8:Nat),(kp5:Nat),1+(kp4:Nat),1+(kp3:Nat),t,0,true⟩]) ⟨hlt,h30,?_,?_⟩ ?_<|B6 9 (frC (frS Bq)<|frC (frS Z)<|frC (frO<|flC (D3 V)<|flC (Aq (v:=aR 3 nl) hnl)<|flC (Aq (v:=aR 6 tl) htl)<|flC (Gy (id:=8) V B4) flN)<|frC (frS Z)<|frC (frS<|B9 _)<|frC (frS Z)<|frC (frS Z)<|frC (frS Z)<|frC (frS<|I2 _) frN)<|fzC Z (Af V)<|fzC Z (Af V)<|fzC Z (Af V)<|fI<|fI fzN;·grind
     ·intro z hz;simp only[List.mem_append,List.mem_singleton]at hz;rcases hz with hz|rfl;·grind
      ·exact⟨⟨by grind,by grind⟩,⟨by grind,by grind⟩,⟨by grind,by grind⟩,⟨by grind,by grind⟩,⟨by grind,by grind⟩,ht,.inl ⟨rfl,rfl⟩⟩
     omega
    ·refine Wm ?_;refine mS Cc ?_;refine Wm ?_;refine mV (v:=aH 8 11 0 1<|some 1) Cc ?_;refine mS (v:=aH 8 8 0 (N (x::q)+1) none) (oAppR (l:=x::q) (q:=⟨(kpn:Nat),(kp8:Nat),(kp5:Nat),1+(kp4:Nat),1+(kp3:Nat),t,1+(kp9:Nat),false⟩) Cc Cc Cc Cc Z) ?_ (hs:=by simp only[Ah,and_true,C0];omega);refine Wm ?_;refine hoN (j+1,c0,r0,(x::q)++[⟨(kpn:Nat),(kp8:Nat),(kp5:Nat),1+(kp4:Nat),1+(kp3:Nat),t,1+(kp9:Nat),false⟩]) ⟨hlt,h30,?_,?_⟩ ?_<|B6 9 (frC (frS Bq)<|frC (frS Z)<|frC (frO<|flC (D3 V)<|flC (Aq (v:=aR 3 nl) hnl)<|flC (Aq (v:=aR 6 tl) htl)<|flC (Gy (id:=8) V B4) flN)<|frC (frS Z)<|frC (frS<|B9 _)<|frC (frS Z)<|frC (frS Z)<|frC (frS Z)<|frC (frS<|I2 _) frN)<|fzC Z (Af V)<|fzC Z (Af V)<|fzC Z (Af V)<|fI<|fI fzN;·grind
     ·intro z hz;simp only[List.mem_append,List.mem_singleton]at hz;rcases hz with hz|rfl;·grind
      ·exact⟨⟨by grind,by grind⟩,⟨by grind,by grind⟩,⟨by grind,by grind⟩,⟨by grind,by grind⟩,⟨by grind,by grind⟩,ht,.inr ⟨rfl,by grind,by grind⟩⟩
     omega
  ·obtain rfl:j=4:=by omega
   cases rs with|nil=>unfold stE HR;refine Wm ?_;exact hoE (c0,r0,[]) ⟨B4,h4⟩ (B6 5 ⟨frS Bq,frS Z,⟨_,Z,D3 V,Aq (v:=aR 3 nl) hnl,Aq (v:=aR 6 tl) htl,Am,O⟩,frS Z,frS<|B9 _,O⟩<|fzC Z (Af V)<|fzC Z (Af V)<|fzC Z (Af V) fzN)|cons x q=>unfold stE HR;refine Wm ?_;exact hoE (c0,r0,x::q) ⟨by grind,h4⟩<|B6 9 ⟨frS Bq,frS Z,⟨_,Z,D3 V,Aq (v:=aR 3 nl) hnl,Aq (v:=aR 6 tl) htl,D3 V,O⟩,frS Z,frS<|B9 _,frS Z,frS Z,frS Z,frS<|I2 _,O⟩<|fzC Z (Af V)<|fzC Z (Af V)<|fzC Z (Af V) fzN
 ·obtain rfl:j=N b.rs:=by omega
  cases rs with|nil=>unfold stE HR;refine Wm ?_;exact hoE (c0,r0,[]) ⟨B4,h4⟩ (B6 5 ⟨frS Bq,frS Z,⟨_,Z,D3 V,Aq (v:=aR 3 nl) hnl,Aq (v:=aR 6 tl) htl,Am,O⟩,frS Z,frS<|B9 _,O⟩<|fzC Z (Af V)<|fzC Z (Af V)<|fzC Z (Af V) fzN)|cons x q=>unfold stE HR;refine Wm ?_;exact hoE (c0,r0,x::q) ⟨by grind,h4⟩<|B6 9 ⟨frS Bq,frS Z,⟨_,Z,D3 V,Aq (v:=aR 3 nl) hnl,Aq (v:=aR 6 tl) htl,D3 V,O⟩,frS Z,frS<|B9 _,frS Z,frS Z,frS Z,frS<|I2 _,O⟩<|fzC Z (Af V)<|fzC Z (Af V)<|fzC Z (Af V) fzN
def nlN (nm:Bool):List AVal:=cond nm [aG [S [82,97,116,101],J U<|-1,S [61,83,33,36,65,36,49,43,49]],aG [S [111,119,110],J U 0,S [61,65,50,42,50]]] []
def tlT (tb:Bool):List AVal:=cond tb [aG [S [116,97,98],J U 0,J U 9,J U 1,J U 2,aR 1 [S [120],S [121,32,121]]]] []
def LB (W0:World)(b:RB)(v:AVal):Prop:=∃n shs rs,(1≤n∧n≤3)∧v=wbV shs (nlN b.nm) (tlT b.tb) rs∧ShG W0 n 30 shs∧N rs≤4∧∀r∈rs,Yb W0 n r
theorem Um :∀(l:List PSh),Da 2 (N l) (shC l)=l.map psV
 | []=>rfl|x::l=>by show _::Da 2 (N l) (shC l)=_;rw[Um l];rfl
theorem Tv :∀(l:List PRl),Da 8 (N l) (rlC l)=l.map rlV
 | []=>rfl|x::l=>by show _::Da 8 (N l) (rlC l)=_;rw[Tv l];rfl
def FzA (H:Hz)(v v':AVal):Prop:=∃k,∀m,k≤m→frz H 0 m v=some v'
theorem fzaC {H:Hz}{v:AVal}(h:blw 0 v=true):FzA H v v:=Lm v h
theorem fzaO {H:Hz}{k id len T:Nat}{cs es:List AVal}{cp:Option Nat}(hk:1≤k)(ho:H[id]?=some (C T cs true))(hl:len*k=N cs)(hc:Da k len cs=es)(hb:A8 0 es=true):FzA H (aH k id 0 len cp) (aR k es):=by
 obtain⟨f,hf⟩:=Ir (H:=H) (n:=0) es hb;refine⟨f+1,λm hm=>?_⟩;cases m with
 |zero=>omega
 |succ m=>
  have h1:bB id 0=false:=BK Y;have h2:bK 1 k=true:=(by simp_all);have h3:(aA 0 0&&aA (len*k) (N cs))=true:=by rw[hl];simp
  simp only[frz,h1,cond_false,h2,cond_true,ho,h3,hc,hf m Y]
theorem DF {H:Hz}{n m:Nat}{v v':AVal}{r r':List AVal}(h:frz H n m v=some v')(k:He H n m r=some r'):He H n (m+1) (v::r)=some (v'::r'):=by grind[He]
theorem frz_s {H:Hz}{n m:Nat}{l l':List AVal}(h:He H n m l=some l'):frz H n (m+1) (aG l)=some (aG l'):=by simp only[frz,h]
theorem fzaL {H:Hz}{a b c d a' b' c' d':AVal}(h1:FzA H a a')(h2:FzA H b b')(h3:FzA H c c')(h4:FzA H d d'):∃k,frz H 0 k (aG [a,b,c,d])=some (aG [a',b',c',d']):=by obtain⟨k1,h1⟩:=h1;obtain⟨k2,h2⟩:=h2;obtain⟨k3,h3⟩:=h3;obtain⟨k4,h4⟩:=h4;exact⟨k1+k2+k3+k4+6,frz_s<|DF (h1 _ Y)<|DF (h2 _ Y)<|DF (h3 _ Y)<|DF (h4 _ Y) Z⟩
theorem shG0 {n:Nat}(_:1≤n∧n≤3):ShG W0 n 0 (Qg n):=by
 refine⟨⟨by simp[Qg,OA],λs hs=>?_,λs hs x hx=>?_⟩,?_⟩;·simp only[Qg,List.mem_map]at hs;obtain⟨k,_,rfl⟩:=hs;simp_all
 ·grind[Qg]
 ·have:∀l:List Nat,Ef (l.map λk=>⟨ttl k,[]⟩)=0:=by intro l;induction l with|nil=>rfl|cons a l ih=>simp only[Ef,jZ,List.sum_cons,lNi]at ih⊢;omega
  exact Nat.le_of_eq<|this _
theorem bookE (hk:Kn W0){b:RB}(hb:OO b):Aw gH W0 6 [aG<|rbL b] (LB W0 b):=by
 have hg:=grK hk;have hp:=λH=>hO (W0:=W0) (P:=gH) Z Z (Fg hg (c:=b.sh) (n:=3) hb.sh.1 hb.sh.2 V []) H;have h3:=C6 (c:=b.sh) (n:=3) V;generalize Bt b.sh 3=k at hp h3;have hn:1≤1+k∧1+k≤3:=Y;refine goE 6 150 ?_;refine Wm ?_;refine ExM.lpH (σ:=Nat) (τ:=Unit) (stA b<|1+k) (λi=>i≤1+k) (λi=>1+k-i) 0 (λ_=>stB b<|1+k) (λ_=>True) (B6 3 ⟨frS Bq,frS Z,frS Z,O⟩<|fzC Z (Af (id:=0) (off:=0) V)<|fzC Z (Af (id:=1) (off:=0) V)<|fzC Z (Af (id:=2) (off:=0) V)<|fI<|fI fzN) (hZ _) (roundA hk hn) ?_;intro _ _;generalize 1+k=n at hn;have hsl:=Xw n;unfold stB;refine Wm ?_;refine ExM.jn ⟨.al [(1,aP 0 0),(2,aP 1 0),(3,aP 2 0),(4,J U n)],HS b [aH 2 4 0 n none,aR 3<|nlN b.nm,aN,aN]<|Qg n,150⟩ ?_ ?_
 ·refine kP hg (b:=b.nm) Z (λh=>?_)<|λh=>?_;·rw[h];refine Wm ?_;refine mV (v:=aH 3 5 0 2<|some 2) Cc ?_;refine Wm ?_;exact jHn (B6 5 (frC (frS Bq)<|frC (frS Z)<|frC (frO<|flC (D3 V)<|flC (.inl ⟨100,Z⟩)<|flC Am<|flC Am flN)<|frC (frS Z)<|frC (frS<|B9 _) frN)<|fzC Z (Af (id:=0) (off:=0) V)<|fzC Z (Af (id:=1) (off:=0) V)<|fzC Z (Af (id:=2) (off:=0) V)<|fI fzN)
  ·rw[h];refine Wm ?_;exact jHn<|B6 5 (frC (frS Bq)<|frC (frS Z)<|frC (frO<|flC (D3 V)<|flC Oa<|flC Am<|flC Am flN)<|frC (frS Z)<|frC (frS<|B9 _) frN)<|fzC Z (Af (id:=0) (off:=0) V)<|fzC Z (Af (id:=1) (off:=0) V)<|fzC Z (Af (id:=2) (off:=0) V)<|fI fzN
 have hnl:A8 0 (nlN b.nm)=true:=by cases b.nm<;>rfl
 generalize hnle:nlN b.nm=nl at hnl;refine Wm ?_;refine ExM.jn ⟨.al [(1,aP 0 0),(2,aP 1 0),(3,aP 2 0),(4,J U n)],HS b (BV n nl<|tlT b.tb)<|Qg n,150⟩ ?_ ?_
 ·refine kP hg (b:=b.tb) Z (λh=>?_)<|λh=>?_;·rw[h];refine Wm ?_;refine mV (v:=aH 1 5 0 2<|some 2) Cc ?_;refine Wm ?_;refine mV (v:=aH 6 6 0 1<|some 1) Cc ?_;refine Wm ?_;exact jHn (B6 5 (frC (frS Bq)<|frC (frS Z)<|frC (frO<|flC (D3 V)<|flC (Aq (v:=aR 3 nl) hnl)<|flC (.inl ⟨100,Z⟩)<|flC Am flN)<|frC (frS Z)<|frC (frS<|B9 _) frN)<|fzC Z (Af (id:=0) (off:=0) V)<|fzC Z (Af (id:=1) (off:=0) V)<|fzC Z (Af (id:=2) (off:=0) V)<|fI fzN)
  ·rw[h];refine Wm ?_;exact jHn<|B6 5 (frC (frS Bq)<|frC (frS Z)<|frC (frO<|flC (D3 V)<|flC (Aq (v:=aR 3 nl) hnl)<|flC Oa<|flC Am flN)<|frC (frS Z)<|frC (frS<|B9 _) frN)<|fzC Z (Af (id:=0) (off:=0) V)<|fzC Z (Af (id:=1) (off:=0) V)<|fzC Z (Af (id:=2) (off:=0) V)<|fI fzN
 have htl:A8 0 (tlT b.tb)=true:=by cases b.tb<;>rfl
 generalize htle:tlT b.tb=tl at htl;refine Wm ?_;refine ExM.lpH (σ:=Nat×List PSh) (τ:=List PSh) (λp=>stC b n nl tl p.1 p.2) (λp=>p.1≤N b.cs∧p.1≤30∧ShG W0 n p.1 p.2) (λp=>N b.cs-p.1) (0,Qg n) (λshs=>stD b n nl tl shs) (λshs=>ShG W0 n 30 shs) (B6 5 (frC (frS Bq)<|frC (frS Z)<|frC (frO<|flC (D3 V)<|flC (Aq (v:=aR 3 nl) hnl)<|flC (Aq (v:=aR 6 tl) htl)<|flC Am flN)<|frC (frS Z)<|frC (frS<|B9 _) frN)<|fzC Z (Af (id:=0) (off:=0) V)<|fzC Z (Af (id:=1) (off:=0) V)<|fzC Z (Af (id:=2) (off:=0) V)<|fI<|fI fzN) ⟨hZ _,hZ _,shG0 hn⟩ (roundB hk hb hn hnl htl) ?_;intro shs hS;unfold stD;refine Wm ?_;refine ExM.lpH (σ:=Nat×RC×PRl×List PRl) (τ:=RC×PRl×List PRl) (stE b n nl tl shs) (λp=>p.1≤N b.rs∧p.1≤4∧N p.2.2.2=p.1∧∀r∈p.2.2.2,Yb W0 n r) (λp=>N b.rs-p.1) (0,rc0,rl0,[]) (stF b n nl tl shs) (λp=>N p.2.2≤4∧∀r∈p.2.2,Yb W0 n r) (B6 5 (frC (frS Bq)<|frC (frS rfl)<|frC (frO<|flC (D3 V)<|flC (Aq (v:=aR 3 nl) hnl)<|flC (Aq (v:=aR 6 tl) htl)<|flC Am flN)<|frC (frS rfl)<|frC (frS<|B9 _) frN)<|fzC rfl (Af (id:=0) (off:=0) V)<|fzC rfl (Af (id:=1) (off:=0) V)<|fzC rfl (Af (id:=2) (off:=0) V)<|fI<|fI fzN) ⟨hZ _,hZ _,rfl,λr hr=>by cases hr⟩ (roundC hk hb hn hnl htl) ?_;rintro⟨c0,r0,rs⟩ ⟨hr4,hR⟩;simp only at hr4 hR;have hSl:=hS.len;subst hnle htle;have key:∀(H:Hz) (R R':AVal),H[4]?=some (C 44 (shC shs) true)→FzA H R R'→∃k,frz H 0 k (aG [aH 2 4 0 n none,aR 3<|nlN b.nm,aR 6<|tlT b.tb,R])=some (aG [aR 2<|shs.map psV,aR 3<|nlN b.nm,aR 6<|tlT b.tb,R']):=λH R R' hH hR'=>fzaL (fzaO V hH (by rw[Is,hSl]) (by grind[Um])<|Av shs) (fzaC (v:=aR 3<|nlN b.nm) hnl) (fzaC (v:=aR 6<|tlT b.tb) htl) hR';cases rs with
 |nil=>unfold stF HR;refine ExM.fh (s1:=⟨.al [(1,aP 0 0),(2,aP 1 0),(3,aP 2 0)],HS b [aH 2 4 0 n none,aR 3<|nlN b.nm,aR 6<|tlT b.tb,aR 8 []] shs,150⟩) (B6 5 (frC (frS Bq)<|frC (frS Z)<|frC (frO<|flC (D3 V)<|flC (Aq (v:=aR 3<|nlN b.nm) hnl)<|flC (Aq (v:=aR 6<|tlT b.tb) htl)<|flC Oa flN)<|frC (frS Z)<|frC (frS<|B9 _) frN)<|fzC Z (Af (id:=0) (off:=0) V)<|fzC Z (Af (id:=1) (off:=0) V)<|fzC Z (Af (id:=2) (off:=0) V) fzN) ?_;refine Wm ?_;obtain⟨fu,hfu⟩:=key [C 24 (rbL b) false,C 31 [aH 2 4 0 n none,aR 3<|nlN b.nm,aR 6<|tlT b.tb,aR 8 []] false,C 31 [aH 2 4 0 n none,aR 3<|nlN b.nm,aR 6<|tlT b.tb,aR 8 []] false,g0,C 44 (shC shs) true] _ _ rfl<|fzaC (v:=aR 8 []) rfl;exact⟨_,⟨n,shs,[],hn,Z,hS,hr4,hR⟩,A4 O (vs:=[aG [aH 2 4 0 n none,aR 3<|nlN b.nm,aR 6<|tlT b.tb,aR 8 []]]) Z Z fu hfu Z⟩
 |cons x q=>unfold stF HR;refine Wm ?_;obtain⟨fu,hfu⟩:=key [C 24 (rbL b) false,C 31 [aH 2 4 0 n none,aR 3<|nlN b.nm,aR 6<|tlT b.tb,aH 8 8 0 (N (x::q)) none] false,C 31 [aH 2 4 0 n none,aR 3<|nlN b.nm,aR 6<|tlT b.tb,aH 8 8 0 (N (x::q)) none] false,g0,C 44 (shC shs) true,C 58 (rcL c0) false,C 64 (rlL r0) false,C 64 (rlL r0) false,C 64 (rlC (x::q)) true] _ _ rfl<|fzaO (k:=8) (id:=8) (cp:=none) V rfl (by rw[S3]) (Tv (x::q))<|Cj _;exact⟨_,⟨n,shs,x::q,hn,Z,hS,hr4,hR⟩,A4 O (vs:=[aG [aH 2 4 0 n none,aR 3<|nlN b.nm,aR 6<|tlT b.tb,aH 8 8 0 (N (x::q)) none]]) Z Z fu hfu Z⟩
end Go.Abs
