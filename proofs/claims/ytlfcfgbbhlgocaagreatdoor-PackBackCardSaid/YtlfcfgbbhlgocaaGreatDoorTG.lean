/- A part of the proof that tabula/tabulalaw25.PackBack returns true for every input, each argument reading as it did (its card: the last text). No conditions of its own. -/
import Derived.Test.YtlfcfgbbhlgocaaGreatDoorTF
set_option linter.unusedVariables false
set_option linter.unusedSimpArgs false
set_option maxHeartbeats 4000000
open List renaming length->N
open Go.Abs.AVal renaming int->J,str->S,bool->I,ptr->aP,row->aR,tup->aU,agg->aG,hsl->aH,nilSl->aN,eptr->aE
open Go.Abs.HObj renaming cells->C
open Go.IntKind renaming i64->U,i8->z8
open Go.Abs.A5 renaming pure->hO,of_fnM->jP
open Go.Abs.AVal renaming one->fW
open Go.Abs.Aw renaming of->jD
open Go.Abs.ExA renaming ret->gG
open Go.Abs.ExM renaming ret->iL,seq->iO,exit->iN,ops->iM,loop->iU,block->jK,fz->jL
open Go.Lib renaming trimPrefix->iC,hasPrefix->gJ
open Go.Proofs.Tryz renaming prog->gH
open List renaming replicate->fH,length_cons->jB,mem_or_eq_of_mem_set->jF,length_drop->jG,mem_iff_getElem?->jM
open Nat renaming zero_le->hZ,le_refl->bC,le_trans->bI,ble->bK,beq->aA,pow_lt_pow_right->jO,beq_refl->fY,pow_pos->jA
open UInt8 renaming ofNat->iI,toNat_ofNat_of_lt'->jJ
namespace Go.Abs
open Go.Proofs Go.RowKit
set_option maxRecDepth 100000
variable {W0 : World} {G : List (Nat × AVal)}
theorem JY (s:Bool)(n d:Nat):∀(f:Nat) (e:Int),(Lt s n d f e).2.2=0∨(Lt s n d f e).2.2=10
 |0,e=>.inr rfl
 |f+1,e=>by
  simp only[Lt];split;·exact JY s n d f<|e+1
  grind
theorem LI (s:Bool)(n d:Nat):(Kp s n d).2.2=0∨(Kp s n d).2.2=10:=JY s n d 19<|-9
theorem QG {M E:Int}(h1:-999999999999999≤M)(h2:M≤999999999999999)(h4:E≤9):M.natAbs*10^(E+9).toNat<10^40:=by have h5:M.natAbs<10^15:=Y;have h6:10^(E+9).toNat≤10^18:=Nat.pow_le_pow_right V Y;have h7:0<10^(E+9).toNat:=jA V;have h8:M.natAbs*10^(E+9).toNat<10^15*10^(E+9).toNat:=Nat.mul_lt_mul_of_pos_right h5 h7;omega
theorem DivK (hk:Kn W0){M E E2:Int}(h0:0≤E2)(h1:E2≤4):∃M' E' er:Int,(er=0∨er=10)∧cP W0 98 [aG [J U M,J U E],aG [J U 1,J U E2]] [] (Vp (M',E',er)) []:=by
 have hg:=grK hk;by_cases hr:F6 M E=true
 ·have hb:=Ro hr;have hr2:F6 1 E2=true:=by have:E2=0∨E2=1∨E2=2∨E2=3∨E2=4:=Y;rcases this with rfl|rfl|rfl|rfl|rfl<;>decide
  have h5:=R5 hg (M:=M) (E:=E) ([]:Hz);rw[hr]at h5;have h4:=R5 hg (M:=1) (E:=E2) ([]:Hz);rw[hr2]at h4;have hd0:0<1*10^(E2+9).toNat:=Nat.mul_pos V<|jA V;have hd:1*10^(E2+9).toNat<10^40:=by have:=QG (M:=1) (E:=E2) V V Y;exact this
  have hn:=QG hb.1 hb.2.1 hb.2.2.2;have hnear:∀(s:Bool) (H:Hz),cP W0 149 [I s,tN M.natAbs<|E+9,tN (1:Int).natAbs<|E2+9] H (Vp<|Kp s (M.natAbs*10^(E+9).toNat)<|1*10^(E2+9).toNat) H:=λs H=>A5.sub3 (Sub.refl _) (L1 _ _) (L1 _ _)<|TN hg (Nat.lt_trans hn<|jO V V) (Nat.lt_trans hd<|jO V V) hd0 H;have w1:=λH=>Ol hg (M:=M) (E:=E) hb.1 hb.2.1 hb.2.2.1 hb.2.2.2 H;have w2:=λH=>Ol hg (M:=1) (E:=E2) V V Y Y H;by_cases hs:M<0;·have he:=LI true (M.natAbs*10^(E+9).toNat)<|1*10^(E2+9).toNat;have hn':=hnear true;generalize Kp true (M.natAbs*10^(E+9).toNat) (1*10^(E2+9).toNat)=p at he hn';obtain⟨pM,pE,pe⟩:=p;exact⟨pM,pE,pe,he,div2 hk hs (hn' _) (w2 _) (w1 _) h4 h5⟩
  ·have he:=LI false (M.natAbs*10^(E+9).toNat)<|1*10^(E2+9).toNat;have hn':=hnear false;generalize Kp false (M.natAbs*10^(E+9).toNat) (1*10^(E2+9).toNat)=p at he hn';obtain⟨pM,pE,pe⟩:=p;exact⟨pM,pE,pe,he,div1 hk Y (hn' _) (w2 _) (w1 _) h4 h5⟩
 ·have hr':F6 M E=false:=by grind
  have h5:=R5 hg (M:=M) (E:=E) ([]:Hz);rw[hr']at h5;exact⟨0,0,10,.inr Z,div0 hk h5⟩
def E5 (k m e:Int)(s:Bz)(b:Bool)(er:Int):AVal:=aG [J U k,J U m,J U e,S s,I b,J U er,J U 0,J U 0,aN,J U 0,aN,aN]
def i64 (x:Int):Prop:=-9223372036854775808≤x∧x≤9223372036854775807
theorem ValNum (hk:Kn W0){K M E:Int}{s:Bz}{b:Bool}(hK:i64 K)(hM:i64 M)(hE:i64 E)(h1:Bt K 5=1):∃m e:Int,cP W0 66 [aG [J U K,J U M,J U E,S s,I b]] [] (E5 1 m e [] false 0) []:=by
 have hg:=grK hk;have k1:=Rm hg (c:=K) (n:=5) hK.1 hK.2 V;rw[h1]at k1;have k2:=Rm hg (c:=M) (n:=2000001) hM.1 hM.2 V;have k3:=Rm hg (c:=E) (n:=5) hE.1 hE.2 V;have l2:=C6 (c:=M) (n:=2000001) V;have l3:=C6 (c:=E) (n:=5) V;obtain⟨m1,e1,er1,hr1,c1⟩:=OfK hg (n:=((Bt M 2000001:Nat):Int)-1000000) Y Y;rw[←w64 (x:=((Bt M 2000001:Nat):Int)-1000000) Y Y]at c1;obtain⟨m2,e2,er2,hr2,c2⟩:=DivK hk (M:=m1) (E:=e1) (E2:=((Bt E 5:Nat):Int)) Y Y;rcases hr1 with rfl|rfl
 ·rcases hr2 with rfl|rfl;·exact⟨m2,e2,val0 hk c2 k3 c1 k2 k1⟩
  ·exact⟨0,0,val1 hk c2 k3 c1 k2 k1⟩
 ·exact⟨0,0,val2 hk c2 k3 c1 k2 k1⟩
theorem tenK (hg:hGr W0 G){x:Nat}{n:Int}{o1 o2:HObj}(hx:x≠0)(hl:N (Eh x)≤1000)(hn:n≤1000):cP W0 153 [dN x,J U n] [o1,o2] (aH 1 3 0 (N<|fH n.toNat 0++Eh x) none) [o1,o2,C 3 (Bm<|fH n.toNat 0) false,C 3 (Bm<|fH n.toNat 0++Eh x) true]:=by have hz:=Wi hx;refine goM 153 13 ?_;refine sO<|x1 Z<|sq<|sO<|mV Z<|mV (v:=J U (N (Eh x):Nat)) (Gi Z)<|mF Z<|mn<|cF Z<|kM<|sO<|mV Z<|mK (v:=J U (n.toNat:Nat)) Z (iE (by grind))<|Ac hg gN (v:=aH 1 2 0 n.toNat<|some n.toNat) (mkSlD Z) Z K7<|mV Z<|Ac hg gN (v:=aH 1 3 0 (N<|fH n.toNat 0++Eh x) none) (TI Z Z hz Z B4 Z) Z bY145<|x1 Z ?_;exact iL<|pS
theorem wholeK1 (hk:Kn W0){M E:Int}(hr:F6 M E=true)(h0:M≠0):cP W0 152 [aG [J U M,J U E]] [C 54 [J U M,J U E] false] (aH 1 3 0 (N<|fH (E+9).toNat 0++Eh M.natAbs) none) [C 54 [J U M,J U E] false,C 54 [J U M,J U E] false,C 3 (Bm<|fH (E+9).toNat 0) false,C 3 (Bm<|fH (E+9).toNat 0++Eh M.natAbs) true]:=by have hb:=Ro hr;have hg:=grK hk;have hl:=G2 (n:=M.natAbs) (k:=15) Y;refine wholK0 hk (x1:=dN M.natAbs) ?_<|Du hg Y Y _;rw[w64 (x:=E+9) Y Y];exact tenK hg Y Y Y
theorem wholeK0 (hk:Kn W0){E:Int}(hr:F6 0 E=true):cP W0 152 [aG [J U 0,J U E]] [C 54 [J U 0,J U E] false] aN [C 54 [J U 0,J U E] false,C 54 [J U 0,J U E] false]:=by have hb:=Ro hr;have hg:=grK hk;refine wholK1 hk (x1:=dN (0:Int).natAbs) ?_<|Du hg Y Y _;rw[w64 (x:=E+9) Y Y];have:=Vw hg (x:=0) (n:=E+9) V Y [C 54 [J U 0,J U E] false,C 54 [J U 0,J U E] false];exact this
def tvv :List AVal×List Nat→AVal
 |(_,[])=>aN|(_,d::r)=>aH 1 3 0 (N (d::r)) none
def thh (A:HObj):List AVal×List Nat→Hz
 |(_,[])=>[A,A]|(Jx,d::r)=>[A,A,C 3 Jx false,C 3 (Bm (d::r)) true]
theorem Rt {k T:Nat}{m e:Int}{x:List AVal×List Nat}(h:∀k,A8 k x.1=true):B7 k (thh (C T [J U m,J U e] false) x)=true:=by obtain⟨Jx,l⟩:=x;cases l with|nil=>rfl|cons d r=>show cond (A8 k Jx) (cond (A8 k<|Bm (d::r)) true false) false=true;rw[h k,Bc];rfl
def X3 (s:Bz):Prop:=∀c r,s=c::r→c≠61
theorem Kq :X3 []:=λ_ _ h=>Hq
def pl (s:Bz):Prop:=∀b∈s,45≤b.toNat∧b.toNat≤57
theorem Uh :pl []:=λ_ h=>Hq
theorem Je {s t:Bz}(h:pl s)(ht:pl t):pl (s++t):=λb hb=>by
 rcases List.mem_append.1 hb with hb|hb;·exact h b hb
 ·exact ht b hb
theorem Xg {c:UInt8}(h:45≤c.toNat∧c.toNat≤57):pl [c]:=λb hb=>by grind
theorem Tq {d:Nat}(h:d<10):pl [iI<|48+d]:=Xg (by grind[UInt8.toNat_ofNat'])
theorem pl_hd {s:Bz}(h:pl s):X3 s:=λc r e=>by subst e;have:=h c B4;intro e;simp_all
theorem textE (hk:Kn W0){M E:Int}:Aw gH W0 213 [aG [J U M,J U E]] (λv=>∃(s:Bz) (er:Int),v=aU [S s,J U er]∧pl s∧N s≤90):=by
 have hg:=grK hk;refine goE 213 56 ?_;cases hr:F6 M E with
 |false=>refine sO<|mV (v:=aP 0 0) Z<|x2 Z Z<|sq<|sO<|mV Z<|Hv hg gN (c:=false) Z Z (show cP W0 154 [aG [J U M,J U E]] _ (I<|F6 M E) _ from R5 hg _) hr<|x1 Z<|cT Z<|sO<|x2 Z Z<|iL ?_;exact⟨_,⟨[],10,Z,Uh,V⟩,A4 O Z Z 100 Z Z⟩
 |true=>
  have hb:=Ro hr;by_cases hM:M=0
  ·subst hM;refine sO<|mV (v:=aP 0 0) Z<|x2 Z Z<|sq<|sO<|mV Z<|Hv hg gN (c:=true) Z Z (show cP W0 154 [aG [J U 0,J U E]] _ (I<|F6 0 E) _ from R5 hg _) hr<|x1 Z<|cF Z<|kM<|sO<|mV Z<|mC Z (wholeK0 hk hr)<|x1 Z<|sq<|bM ?_;refine iU (σ:=List AVal×List Nat) (λσ=>⟨.al [(1,aP 0 0),(4,tvv σ)],thh (C 54 [J U 0,J U E] false) σ,56⟩) (λσ=>Dig σ.2∧N σ.2≤40∧∀k,A8 k σ.1=true) (λσ=>40-N σ.2) ([],[]) ?_ ⟨Dig.nil,B4,λ_=>Z⟩ ?_;·exact As 2 Z V Z Z (fzC Z (fvP Z)<|fzC Z Am fzN)
   rintro⟨Jx,l⟩ ⟨hl,hll,hJ⟩;simp only at hl hll hJ⊢;rcases l with _|⟨d,r⟩;·refine sq<|sO<|mV Z<|mV (v:=J U 0) Z<|mT Z<|mn<|cT Z<|kM<|bM<|oM<|mV Z<|mV (v:=aH 1 2 0 1<|some 1) Z<|Ac hg gN (v:=aH 1 3 0 (N<|[]++[0]) none) Z Z (Ft (n:=1) V)<|x1 Z ?_;exact⟨([J U 0],[]++[0]),⟨Dig.cons V Dig.nil,B4,λ_=>Z⟩,B4,As 4 Z V Z (Rt λ_=>Z)<|fzC Z (fvP Z)<|fzC Z (fvH Z) fzN⟩
   ·refine sq<|sO<|m2 Z Z ?_;by_cases h9:N (d::r)≤9;·refine mBk hg gN (c:=true) Z Z (decide_eq_true Y)<|mn<|cT Z<|kM<|bM<|oM<|mV Z<|mV (v:=aH 1 4 0 1<|some 1) Z<|Ac hg gN (v:=aH 1 3 0 (N<|(d::r)++[0]) none) (appS Z Z Z Z Z) Z (Ft Y)<|x1 Z ?_;exact⟨(Jx,(d::r)++[0]),⟨hl.snoc V,by grind,hJ⟩,by grind,As 4 rfl V rfl (Rt hJ)<|fzC Z (fvP Z)<|fzC Z (fvH Z) fzN⟩
    ·refine mBk hg gN (c:=false) Z Z (dF Y)<|mn<|cF Z<|iN<|sO<|x1 Z<|sq<|bM ?_;have h10:¬N (d::r)≤9:=h9;refine iU (σ:=Nat) (λf=>⟨.al [(1,aP 0 0),(4,dg (d::r)),(5,J U (f:Nat))],[C 54 [J U 0,J U E] false],56⟩) (λf=>f≤9) (λf=>9-f) 0 (As 1 Z (hZ _) Z Z<|fzC Z (fvP Z)<|fzC Z (R0 (id:=3) V Z)<|fI fzN) (hZ _) ?_;rintro f hf;generalize d::r=D at*;refine sq<|sO<|mV Z ?_;by_cases hf9:f<9
     ·refine mT Z<|m3 Z Z Z<|mS (v:=aE (J U (D.getD f 0:Nat)) 0) (Jl Z Z Y)<|mV Z ?_;by_cases hz:D.getD f 0=0;·refine mBk hg (gS Z) (c:=true) Z Z (by grind)<|x1 Z<|cT Z<|kM<|bM<|oM<|mV Z<|mI ((f+1:Nat)) Z<|x1 Z ?_;exact⟨f+1,Y,Y,As 1 Z (hZ _) Z Z<|fzC Z (fvP Z)<|fzC Z fvD<|fI fzN⟩
      ·refine mF Z<|x1 Z<|cF Z<|iN<|sO<|x1 Z<|sq<|sO<|m2 Z Z<|mF Z<|mn<|cF Z<|kM<|sq<|sO<|mV Z<|mV (v:=J U (N D:Nat)) (Gi Z)<|mK (v:=J U<|(N D:Nat)-1) Z (Bw Y Y Z)<|x1 Z<|bM<|iU (σ:=Nat×Bz) (λσ=>⟨.al [(1,aP 0 0),(4,dg D),(5,J U (f:Nat)),(6,S σ.2),(7,J U<|(σ.1:Nat)-1)],[C 54 [J U 0,J U E] false],56⟩) (λσ=>σ.1≤N D∧pl σ.2∧N σ.2+2*σ.1≤90) (λσ=>σ.1) (N D,_) (As 1 Z (hZ _) Z Z<|fzC Z (fvP Z)<|fzC Z fvD<|fI<|fS<|fI fzN) ⟨bC _,by grind[Uh],by grind⟩ ?_;rintro⟨k,s⟩ ⟨hk,hs,hsl⟩;simp only at hk hs hsl⊢;refine sq<|sO ?_;by_cases hkf:f<k
       ·obtain⟨j,rfl⟩:∃j,k=j+1:=⟨k-1,Y⟩;have hdj:=hl.get j;refine m2 Z Z<|mT Z<|mn<|cT Z<|kM<|sq<|bM<|sq<|sO<|mV Z ?_;by_cases h8:j=8;·refine mT Z<|mn<|cT Z<|oM<|mV Z<|mS Z<|x1 Z<|oM<|m2 Z Z<|mK (v:=J U (j:Nat)) Z (iE Y)<|mS (v:=aE (J U (D.getD j 0:Nat)) 0) (Jl Z Z Y)<|mV Z<|mI ((48+D.getD j 0:Nat)) Z<|mK (v:=J .u8<|(48+D.getD j 0:Nat)) Z (w8E Y Y Z)<|mV (v:=aH 1 1 0 1<|some 1) Z<|mV (v:=S [iI<|48+D.getD j 0]) Z<|Ac hg gN Z Z Yw<|x1 Z<|oM<|mV Z<|mI ((j:Nat)-1) Z<|x1 Z ?_;exact⟨(j,(s++[46])++[iI<|48+D.getD j 0]),⟨Y,Je (Je hs<|Xg V)<|Tq hdj,by grind⟩,Y,As 1 rfl (hZ _) rfl rfl<|fzC Z (fvP Z)<|fzC Z fvD<|fI<|fS<|fI fzN⟩
        ·refine mF Z<|mn<|cF Z<|kM<|oM<|m2 Z Z<|mK (v:=J U (j:Nat)) Z (iE Y)<|mS (v:=aE (J U (D.getD j 0:Nat)) 0) (Jl Z Z Y)<|mV Z<|mI ((48+D.getD j 0:Nat)) Z<|mK (v:=J .u8<|(48+D.getD j 0:Nat)) Z (w8E Y Y Z)<|mV (v:=aH 1 1 0 1<|some 1) Z<|mV (v:=S [iI<|48+D.getD j 0]) Z<|Ac hg gN Z Z Yw<|x1 Z<|oM<|mV Z<|mI ((j:Nat)-1) Z<|x1 Z ?_;exact⟨(j,s++[iI<|48+D.getD j 0]),⟨Y,Je hs<|Tq hdj,by grind⟩,Y,As 1 rfl (hZ _) rfl rfl<|fzC Z (fvP Z)<|fzC Z fvD<|fI<|fS<|fI fzN⟩
       ·refine m2 Z Z<|mF Z<|mn<|cF Z<|iN<|sO<|x3 Z Z Z<|iL ?_;exact⟨_,⟨s,0,Z,hs,Y⟩,A4 O Z Z 100 Z Z⟩
     ·refine mF Z<|mV Z<|mG<|mG<|mG<|mG<|mG<|x1 Z<|cF Z<|iN<|sO<|x1 Z<|sq<|sO<|m2 Z Z<|mF Z<|mn<|cF Z<|kM<|sq<|sO<|mV Z<|mV (v:=J U (N D:Nat)) (Gi Z)<|mK (v:=J U<|(N D:Nat)-1) Z (Bw Y Y Z)<|x1 Z<|bM<|iU (σ:=Nat×Bz) (λσ=>⟨.al [(1,aP 0 0),(4,dg D),(5,J U (f:Nat)),(6,S σ.2),(7,J U<|(σ.1:Nat)-1)],[C 54 [J U 0,J U E] false],56⟩) (λσ=>σ.1≤N D∧pl σ.2∧N σ.2+2*σ.1≤90) (λσ=>σ.1) (N D,_) (As 1 Z (hZ _) Z Z<|fzC Z (fvP Z)<|fzC Z fvD<|fI<|fS<|fI fzN) ⟨bC _,by grind[Uh],by grind⟩ ?_;rintro⟨k,s⟩ ⟨hk,hs,hsl⟩;simp only at hk hs hsl⊢;refine sq<|sO ?_;by_cases hkf:f<k
      ·obtain⟨j,rfl⟩:∃j,k=j+1:=⟨k-1,Y⟩;have hdj:=hl.get j;refine m2 Z Z<|mT Z<|mn<|cT Z<|kM<|sq<|bM<|sq<|sO<|mV Z ?_;by_cases h8:j=8;·omega
       ·refine mF Z<|mn<|cF Z<|kM<|oM<|m2 Z Z<|mK (v:=J U (j:Nat)) Z (iE Y)<|mS (v:=aE (J U (D.getD j 0:Nat)) 0) (Jl Z Z Y)<|mV Z<|mI ((48+D.getD j 0:Nat)) Z<|mK (v:=J .u8<|(48+D.getD j 0:Nat)) Z (w8E Y Y Z)<|mV (v:=aH 1 1 0 1<|some 1) Z<|mV (v:=S [iI<|48+D.getD j 0]) Z<|Ac hg gN Z Z Yw<|x1 Z<|oM<|mV Z<|mI ((j:Nat)-1) Z<|x1 Z ?_;exact⟨(j,s++[iI<|48+D.getD j 0]),⟨Y,Je hs<|Tq hdj,by grind⟩,Y,As 1 rfl (hZ _) rfl rfl<|fzC Z (fvP Z)<|fzC Z fvD<|fI<|fS<|fI fzN⟩
      ·refine m2 Z Z<|mF Z<|mn<|cF Z<|iN<|sO<|x3 Z Z Z<|iL ?_;exact⟨_,⟨s,0,Z,hs,Y⟩,A4 O Z Z 100 Z Z⟩
  ·have hlM:=G2 (n:=M.natAbs) (k:=15) Y;obtain⟨d0,r0,hdr⟩:∃d r,fH (E+9).toNat 0++Eh M.natAbs=d::r:=by cases h:fH (E+9).toNat 0++Eh M.natAbs with|nil=>exact absurd (DR (List.append_eq_nil_iff.1 h).2) Y|cons d r=>exact⟨d,r,rfl⟩
   have hd0:Dig (d0::r0):=by rw[←hdr];exact(Dig.zeros _).app<|I4 _
   have hl0:N (d0::r0)≤40:=by grind
   have hw:=wholeK1 hk hr hM;rw[hdr]at hw;refine sO<|mV (v:=aP 0 0) Z<|x2 Z Z<|sq<|sO<|mV Z<|Hv hg gN (c:=true) Z Z (show cP W0 154 [aG [J U M,J U E]] _ (I<|F6 M E) _ from R5 hg _) hr<|x1 Z<|cF Z<|kM<|sO<|mV Z<|mC Z hw<|x1 Z<|sq<|bM ?_;refine iU (σ:=List AVal×List Nat) (λσ=>⟨.al [(1,aP 0 0),(4,tvv σ)],thh (C 54 [J U M,J U E] false) σ,56⟩) (λσ=>Dig σ.2∧N σ.2≤40∧∀k,A8 k σ.1=true) (λσ=>40-N σ.2) (Bm<|fH (E+9).toNat 0,d0::r0) ?_ ⟨hd0,hl0,λ_=>Bc _⟩ ?_;·exact As 4 Z V Z (Rt λ_=>Bc _)<|fzC Z (fvP Z)<|fzC Z (fvH Z) fzN
   rintro⟨Jx,l⟩ ⟨hl,hll,hJ⟩;simp only at hl hll hJ⊢;rcases l with _|⟨d,r⟩;·refine sq<|sO<|mV Z<|mV (v:=J U 0) Z<|mT Z<|mn<|cT Z<|kM<|bM<|oM<|mV Z<|mV (v:=aH 1 2 0 1<|some 1) Z<|Ac hg gN (v:=aH 1 3 0 (N<|[]++[0]) none) Z Z (Ft (n:=1) V)<|x1 Z ?_;exact⟨([J U 0],[]++[0]),⟨Dig.cons V Dig.nil,B4,λ_=>Z⟩,B4,As 4 Z V Z (Rt λ_=>Z)<|fzC Z (fvP Z)<|fzC Z (fvH Z) fzN⟩
   ·refine sq<|sO<|m2 Z Z ?_;by_cases h9:N (d::r)≤9;·refine mBk hg gN (c:=true) Z Z (decide_eq_true Y)<|mn<|cT Z<|kM<|bM<|oM<|mV Z<|mV (v:=aH 1 4 0 1<|some 1) Z<|Ac hg gN (v:=aH 1 3 0 (N<|(d::r)++[0]) none) (appS Z Z Z Z Z) Z (Ft Y)<|x1 Z ?_;exact⟨(Jx,(d::r)++[0]),⟨hl.snoc V,by grind,hJ⟩,by grind,As 4 rfl V rfl (Rt hJ)<|fzC Z (fvP Z)<|fzC Z (fvH Z) fzN⟩
    ·refine mBk hg gN (c:=false) Z Z (dF Y)<|mn<|cF Z<|iN<|sO<|x1 Z<|sq<|bM ?_;have h10:¬N (d::r)≤9:=h9;refine iU (σ:=Nat) (λf=>⟨.al [(1,aP 0 0),(4,dg (d::r)),(5,J U (f:Nat))],[C 54 [J U M,J U E] false],56⟩) (λf=>f≤9) (λf=>9-f) 0 (As 1 Z (hZ _) Z Z<|fzC Z (fvP Z)<|fzC Z (R0 (id:=3) V Z)<|fI fzN) (hZ _) ?_;rintro f hf;generalize d::r=D at*;refine sq<|sO<|mV Z ?_;by_cases hf9:f<9
     ·refine mT Z<|m3 Z Z Z<|mS (v:=aE (J U (D.getD f 0:Nat)) 0) (Jl Z Z Y)<|mV Z ?_;by_cases hz:D.getD f 0=0;·refine mBk hg (gS Z) (c:=true) Z Z (by grind)<|x1 Z<|cT Z<|kM<|bM<|oM<|mV Z<|mI ((f+1:Nat)) Z<|x1 Z ?_;exact⟨f+1,Y,Y,As 1 Z (hZ _) Z Z<|fzC Z (fvP Z)<|fzC Z fvD<|fI fzN⟩
      ·refine mF Z<|x1 Z<|cF Z<|iN<|sO<|x1 Z<|sq<|sO<|m2 Z Z ?_;refine mB hg gN Z Z O (λh1=>?_) (λh1=>?_)
       ·refine mn<|cT Z<|oM<|x1 Z<|sq<|sO<|mV Z<|mV (v:=J U (N D:Nat)) (Gi Z)<|mK (v:=J U<|(N D:Nat)-1) Z (Bw Y Y Z)<|x1 Z<|bM<|iU (σ:=Nat×Bz) (λσ=>⟨.al [(1,aP 0 0),(4,dg D),(5,J U (f:Nat)),(6,S σ.2),(7,J U<|(σ.1:Nat)-1)],[C 54 [J U M,J U E] false],56⟩) (λσ=>σ.1≤N D∧pl σ.2∧N σ.2+2*σ.1≤90) (λσ=>σ.1) (N D,_) (As 1 Z (hZ _) Z Z<|fzC Z (fvP Z)<|fzC Z fvD<|fI<|fS<|fI fzN) ⟨bC _,bY43,by grind⟩ ?_;rintro⟨k,s⟩ ⟨hk,hs,hsl⟩;simp only at hk hs hsl⊢;refine sq<|sO ?_;by_cases hkf:f<k
        ·obtain⟨j,rfl⟩:∃j,k=j+1:=⟨k-1,Y⟩;have hdj:=hl.get j;refine m2 Z Z<|mT Z<|mn<|cT Z<|kM<|sq<|bM<|sq<|sO<|mV Z ?_;by_cases h8:j=8;·refine mT Z<|mn<|cT Z<|oM<|mV Z<|mS Z<|x1 Z<|oM<|m2 Z Z<|mK (v:=J U (j:Nat)) Z (iE Y)<|mS (v:=aE (J U (D.getD j 0:Nat)) 0) (Jl Z Z Y)<|mV Z<|mI ((48+D.getD j 0:Nat)) Z<|mK (v:=J .u8<|(48+D.getD j 0:Nat)) Z (w8E Y Y Z)<|mV (v:=aH 1 1 0 1<|some 1) Z<|mV (v:=S [iI<|48+D.getD j 0]) Z<|Ac hg gN Z Z Yw<|x1 Z<|oM<|mV Z<|mI ((j:Nat)-1) Z<|x1 Z ?_;exact⟨(j,(s++[46])++[iI<|48+D.getD j 0]),⟨Y,Je (Je hs<|Xg V)<|Tq hdj,by grind⟩,Y,As 1 rfl (hZ _) rfl rfl<|fzC Z (fvP Z)<|fzC Z fvD<|fI<|fS<|fI fzN⟩
         ·refine mF Z<|mn<|cF Z<|kM<|oM<|m2 Z Z<|mK (v:=J U (j:Nat)) Z (iE Y)<|mS (v:=aE (J U (D.getD j 0:Nat)) 0) (Jl Z Z Y)<|mV Z<|mI ((48+D.getD j 0:Nat)) Z<|mK (v:=J .u8<|(48+D.getD j 0:Nat)) Z (w8E Y Y Z)<|mV (v:=aH 1 1 0 1<|some 1) Z<|mV (v:=S [iI<|48+D.getD j 0]) Z<|Ac hg gN Z Z Yw<|x1 Z<|oM<|mV Z<|mI ((j:Nat)-1) Z<|x1 Z ?_;exact⟨(j,s++[iI<|48+D.getD j 0]),⟨Y,Je hs<|Tq hdj,by grind⟩,Y,As 1 rfl (hZ _) rfl rfl<|fzC Z (fvP Z)<|fzC Z fvD<|fI<|fS<|fI fzN⟩
        ·refine m2 Z Z<|mF Z<|mn<|cF Z<|iN<|sO<|x3 Z Z Z<|iL ?_;exact⟨_,⟨s,0,Z,hs,Y⟩,A4 O Z Z 100 Z Z⟩
       ·refine mn<|cF Z<|kM<|sq<|sO<|mV Z<|mV (v:=J U (N D:Nat)) (Gi Z)<|mK (v:=J U<|(N D:Nat)-1) Z (Bw Y Y Z)<|x1 Z<|bM<|iU (σ:=Nat×Bz) (λσ=>⟨.al [(1,aP 0 0),(4,dg D),(5,J U (f:Nat)),(6,S σ.2),(7,J U<|(σ.1:Nat)-1)],[C 54 [J U M,J U E] false],56⟩) (λσ=>σ.1≤N D∧pl σ.2∧N σ.2+2*σ.1≤90) (λσ=>σ.1) (N D,_) (As 1 Z (hZ _) Z Z<|fzC Z (fvP Z)<|fzC Z fvD<|fI<|fS<|fI fzN) ⟨bC _,by grind[Uh],by grind⟩ ?_;rintro⟨k,s⟩ ⟨hk,hs,hsl⟩;simp only at hk hs hsl⊢;refine sq<|sO ?_;by_cases hkf:f<k
        ·obtain⟨j,rfl⟩:∃j,k=j+1:=⟨k-1,Y⟩;have hdj:=hl.get j;refine m2 Z Z<|mT Z<|mn<|cT Z<|kM<|sq<|bM<|sq<|sO<|mV Z ?_;by_cases h8:j=8;·refine mT Z<|mn<|cT Z<|oM<|mV Z<|mS Z<|x1 Z<|oM<|m2 Z Z<|mK (v:=J U (j:Nat)) Z (iE Y)<|mS (v:=aE (J U (D.getD j 0:Nat)) 0) (Jl Z Z Y)<|mV Z<|mI ((48+D.getD j 0:Nat)) Z<|mK (v:=J .u8<|(48+D.getD j 0:Nat)) Z (w8E Y Y Z)<|mV (v:=aH 1 1 0 1<|some 1) Z<|mV (v:=S [iI<|48+D.getD j 0]) Z<|Ac hg gN Z Z Yw<|x1 Z<|oM<|mV Z<|mI ((j:Nat)-1) Z<|x1 Z ?_;exact⟨(j,(s++[46])++[iI<|48+D.getD j 0]),⟨Y,Je (Je hs<|Xg V)<|Tq hdj,by grind⟩,Y,As 1 rfl (hZ _) rfl rfl<|fzC Z (fvP Z)<|fzC Z fvD<|fI<|fS<|fI fzN⟩
         ·refine mF Z<|mn<|cF Z<|kM<|oM<|m2 Z Z<|mK (v:=J U (j:Nat)) Z (iE Y)<|mS (v:=aE (J U (D.getD j 0:Nat)) 0) (Jl Z Z Y)<|mV Z<|mI ((48+D.getD j 0:Nat)) Z<|mK (v:=J .u8<|(48+D.getD j 0:Nat)) Z (w8E Y Y Z)<|mV (v:=aH 1 1 0 1<|some 1) Z<|mV (v:=S [iI<|48+D.getD j 0]) Z<|Ac hg gN Z Z Yw<|x1 Z<|oM<|mV Z<|mI ((j:Nat)-1) Z<|x1 Z ?_;exact⟨(j,s++[iI<|48+D.getD j 0]),⟨Y,Je hs<|Tq hdj,by grind⟩,Y,As 1 rfl (hZ _) rfl rfl<|fzC Z (fvP Z)<|fzC Z fvD<|fI<|fS<|fI fzN⟩
        ·refine m2 Z Z<|mF Z<|mn<|cF Z<|iN<|sO<|x3 Z Z Z<|iL ?_;exact⟨_,⟨s,0,Z,hs,Y⟩,A4 O Z Z 100 Z Z⟩
     ·refine mF Z<|mV Z<|mG<|mG<|mG<|mG<|mG<|x1 Z<|cF Z<|iN<|sO<|x1 Z<|sq<|sO<|m2 Z Z ?_;refine mB hg gN Z Z O (λh2=>?_) (λh2=>?_)
      ·refine mn<|cT Z<|oM<|x1 Z<|sq<|sO<|mV Z<|mV (v:=J U (N D:Nat)) (Gi Z)<|mK (v:=J U<|(N D:Nat)-1) Z (Bw Y Y Z)<|x1 Z<|bM<|iU (σ:=Nat×Bz) (λσ=>⟨.al [(1,aP 0 0),(4,dg D),(5,J U (f:Nat)),(6,S σ.2),(7,J U<|(σ.1:Nat)-1)],[C 54 [J U M,J U E] false],56⟩) (λσ=>σ.1≤N D∧pl σ.2∧N σ.2+2*σ.1≤90) (λσ=>σ.1) (N D,_) (As 1 Z (hZ _) Z Z<|fzC Z (fvP Z)<|fzC Z fvD<|fI<|fS<|fI fzN) ⟨bC _,bY43,by grind⟩ ?_;rintro⟨k,s⟩ ⟨hk,hs,hsl⟩;simp only at hk hs hsl⊢;refine sq<|sO ?_;by_cases hkf:f<k
       ·obtain⟨j,rfl⟩:∃j,k=j+1:=⟨k-1,Y⟩;have hdj:=hl.get j;refine m2 Z Z<|mT Z<|mn<|cT Z<|kM<|sq<|bM<|sq<|sO<|mV Z ?_;by_cases h8:j=8;·omega
        ·refine mF Z<|mn<|cF Z<|kM<|oM<|m2 Z Z<|mK (v:=J U (j:Nat)) Z (iE Y)<|mS (v:=aE (J U (D.getD j 0:Nat)) 0) (Jl Z Z Y)<|mV Z<|mI ((48+D.getD j 0:Nat)) Z<|mK (v:=J .u8<|(48+D.getD j 0:Nat)) Z (w8E Y Y Z)<|mV (v:=aH 1 1 0 1<|some 1) Z<|mV (v:=S [iI<|48+D.getD j 0]) Z<|Ac hg gN Z Z Yw<|x1 Z<|oM<|mV Z<|mI ((j:Nat)-1) Z<|x1 Z ?_;exact⟨(j,s++[iI<|48+D.getD j 0]),⟨Y,Je hs<|Tq hdj,by grind⟩,Y,As 1 rfl (hZ _) rfl rfl<|fzC Z (fvP Z)<|fzC Z fvD<|fI<|fS<|fI fzN⟩
       ·refine m2 Z Z<|mF Z<|mn<|cF Z<|iN<|sO<|x3 Z Z Z<|iL ?_;exact⟨_,⟨s,0,Z,hs,Y⟩,A4 O Z Z 100 Z Z⟩
      ·refine mn<|cF Z<|kM<|sq<|sO<|mV Z<|mV (v:=J U (N D:Nat)) (Gi Z)<|mK (v:=J U<|(N D:Nat)-1) Z (Bw Y Y Z)<|x1 Z<|bM<|iU (σ:=Nat×Bz) (λσ=>⟨.al [(1,aP 0 0),(4,dg D),(5,J U (f:Nat)),(6,S σ.2),(7,J U<|(σ.1:Nat)-1)],[C 54 [J U M,J U E] false],56⟩) (λσ=>σ.1≤N D∧pl σ.2∧N σ.2+2*σ.1≤90) (λσ=>σ.1) (N D,_) (As 1 Z (hZ _) Z Z<|fzC Z (fvP Z)<|fzC Z fvD<|fI<|fS<|fI fzN) ⟨bC _,by grind[Uh],by grind⟩ ?_;rintro⟨k,s⟩ ⟨hk,hs,hsl⟩;simp only at hk hs hsl⊢;refine sq<|sO ?_;by_cases hkf:f<k
       ·obtain⟨j,rfl⟩:∃j,k=j+1:=⟨k-1,Y⟩;have hdj:=hl.get j;refine m2 Z Z<|mT Z<|mn<|cT Z<|kM<|sq<|bM<|sq<|sO<|mV Z ?_;by_cases h8:j=8;·omega
        ·refine mF Z<|mn<|cF Z<|kM<|oM<|m2 Z Z<|mK (v:=J U (j:Nat)) Z (iE Y)<|mS (v:=aE (J U (D.getD j 0:Nat)) 0) (Jl Z Z Y)<|mV Z<|mI ((48+D.getD j 0:Nat)) Z<|mK (v:=J .u8<|(48+D.getD j 0:Nat)) Z (w8E Y Y Z)<|mV (v:=aH 1 1 0 1<|some 1) Z<|mV (v:=S [iI<|48+D.getD j 0]) Z<|Ac hg gN Z Z Yw<|x1 Z<|oM<|mV Z<|mI ((j:Nat)-1) Z<|x1 Z ?_;exact⟨(j,s++[iI<|48+D.getD j 0]),⟨Y,Je hs<|Tq hdj,by grind⟩,Y,As 1 rfl (hZ _) rfl rfl<|fzC Z (fvP Z)<|fzC Z fvD<|fI<|fS<|fI fzN⟩
       ·refine m2 Z Z<|mF Z<|mn<|cF Z<|iN<|sO<|x3 Z Z Z<|iL ?_;exact⟨_,⟨s,0,Z,hs,Y⟩,A4 O Z Z 100 Z Z⟩
theorem C2 {c:UInt8}{r:Bz}(h:c≠61):X3 (c::r):=λc' r' e=>by grind
theorem UP (s:Bz)(i:Nat):(s.getD i 0).toNat<256:=(s.getD i 0).toNat_lt
theorem HW {s:Bz}{n:Nat}{low high:Int}(hn:n≤N s)(hc:(n=2∧194≤(s.getD 0 0).toNat∧(s.getD 0 0).toNat≤223∧low=128∧high=191)∨(n=3∧224≤(s.getD 0 0).toNat∧(s.getD 0 0).toNat≤239∧128≤low∧high≤191∧((s.getD 0 0).toNat=224→low=160)∧((s.getD 0 0).toNat=237→high=159))∨(n=4∧240≤(s.getD 0 0).toNat∧(s.getD 0 0).toNat≤244∧128≤low∧high≤191∧((s.getD 0 0).toNat=240→low=144)∧((s.getD 0 0).toNat=244→high=143)))
 (h1:low≤((s.getD 1 0).toNat:Int)) (h2:((s.getD 1 0).toNat:Int)≤high) (h3:∀k,2≤k→k<n→128≤(s.getD k 0).toNat∧(s.getD k 0).toNat≤191):Le s 0 n:=by
 refine⟨Y,?_⟩;simp only[Nat.zero_add,bt];rcases hc with⟨rfl,a1,a2,rfl,rfl⟩|⟨rfl,a1,a2,a3,a4,a5,a6⟩|⟨rfl,a1,a2,a3,a4,a5,a6⟩;all_goals grind
theorem Le.undrop {s:Bz}{i n:Nat}(hi:i≤N s)(h:Le (s.drop i) 0 n):Le s i n:=by obtain⟨h1,h⟩:=h;refine⟨by grind,?_⟩;simp_all[Tc]
def RF :ACode:=.seq (sQ [yM 51 0,yV 52<|.idxStr 51<|vI 1,yV 53<|.conv (.int U) 52,yM 54 5,yV 55<|.bin .lss none 53 54,yM 56 55,yF 57 56<|.move 0,yF 58 56<|.idxStr 57<|vI 1,yF 59 56<|.conv (.int U) 58,yF 60 56<|.move 6,yF 61 56<|.bin .gtr none 59 60,yV 62<|.pick 56 (.val<|I true) 61]<|.cond 62 (sQ [yV 2<|.move<|vI 0] .ret) .skip)<|.seq (sQ [yV 7<|.move<|vI 2]<|.block 1<|.loop<|.seq (sQ [yM 63 7,yM 64 4,yV 65<|.bin .lss none 63 64]<|.cond 65 .skip<|.exit 1)<|.seq (.block 2<|sQ [yM 68 0,yM 69 7,yV 70<|.idxStr 68 69,yV 71<|.bin .lss none 70<|.val<|J .u8 128,yM 72 71,yF 73 72<|.move 0,yF 74 72<|.move 7,yF 75 72<|.idxStr 73 74,yF 76 72<|.bin .gtr none 75<|.val<|J .u8 191,yV 77<|.pick 72 (.val<|I true) 76]<|.cond 77 (sQ [yV 2<|.move<|vI 0] .ret) .skip)<|.ops [yM 66 7,yV 67<|.bin .add none 66<|vI 1,yM 7 67])<|sQ [yM 78 4,yM 2 78] .ret
def KF101 :AFn:=⟨(sQ [yV 2<|.move<|vI 0]<|.seq (sQ [yM 8 0,yV 9<|.len true 8,yV 10<|.bin .eql none 9<|vI 0]<|.cond 10 (sQ [yV 2<|.move<|vI 0] .ret) .skip)<|sQ [yM 11 0,yV 12<|.idxStr 11<|vI 0,yV 13<|.conv (.int U) 12,yM 3 13]<|.seq (sQ [yM 14 3,yV 15<|.bin .lss none 14<|vI 128]<|.cond 15 (sQ [yV 2<|.move<|vI 1] .ret) .skip)<|sQ [yV 4<|.move<|vI 0]<|sQ [yV 5<|.move<|vI 128]<|sQ [yV 6<|.move<|vI 191]<|.seq (sQ [yM 16 3,yV 17<|.bin .geq none 16<|vI 194,yM 18 17,yT 19 18<|.move 3,yT 20 18<|.bin .leq none 19<|vI 223,yV 21<|.pick 18 20<|.val<|I false]<|.cond 21 (.ops [yV 4<|.move<|vI 2]) .skip)<|.seq (sQ [yM 22 3,yV 23<|.bin .geq none 22<|vI 224,yM 24 23,yT 25 24<|.move 3,yT 26 24<|.bin .leq none 25<|vI 239,yV 27<|.pick 24 26<|.val<|I false]<|.cond 27 (.ops [yV 4<|.move<|vI 3]) .skip)<|.seq (sQ [yM 28 3,yV 29<|.bin .geq none 28<|vI 240,yM 30 29,yT 31 30<|.move 3,yT 32 30<|.bin .leq none 31<|vI 244,yV 33<|.pick 30 32<|.val<|I false]<|.cond 33 (.ops [yV 4<|.move<|vI 4]) .skip)<|.seq (sQ [yM 34 4,yV 35<|.bin .eql none 34<|vI 0,yM 36 35,yF 37 36<|.move 0,yF 38 36<|.len true 37,yF 39 36<|.move 4,yF 40 36<|.bin .lss none 38 39,yV 41<|.pick 36 (.val<|I true) 40]<|.cond 41 (sQ [yV 2<|.move<|vI 0] .ret) .skip)<|.seq (sQ [yM 42 3]<|.block 0<|sQ [yV 44<|.bin .eql none 42<|vI 224,yM 43 44]<|.cond 43 (.ops [yV 5<|.move<|vI 160])<|sQ [yV 46<|.bin .eql none 42<|vI 237,yM 45 46]<|.cond 45 (.ops [yV 6<|.move<|vI 159])<|sQ [yV 48<|.bin .eql none 42<|vI 240,yM 47 48]<|.cond 47 (.ops [yV 5<|.move<|vI 144])<|sQ [yV 50<|.bin .eql none 42<|vI 244,yM 49 50]<|.cond 49 (.ops [yV 6<|.move<|vI 143]) .skip) RF),[2],79⟩
theorem KG101 :Gs gH 155=some KF101:=Ar
theorem nameE (hg:hGr W0 G){n:Int}:Aw gH W0 144 [J U n] (λv=>∃t,v=S t∧X3 t∧N t≤1000):=by
 refine goE 144 20 ?_;refine sO<|x1 Z<|sq<|sO<|x1 Z<|bM<|sO ?_;refine mB hg gN Z Z O (λh1=>?_)<|λh1=>?_;·refine x1 Z<|cT Z<|sO<|x1 Z ?_;exact iL ⟨_,⟨_,Z,C2 V,V⟩,A6 O Z Z Z⟩
 ·refine x1 Z<|cF Z<|sO ?_;refine mB hg gN Z Z O (λh2=>?_)<|λh2=>?_;·refine x1 Z<|cT Z<|sO<|x1 Z ?_;exact iL ⟨_,⟨_,Z,C2 V,V⟩,A6 O Z Z Z⟩
  ·refine x1 Z<|cF Z<|sO ?_;refine mB hg gN Z Z O (λh3=>?_)<|λh3=>?_;·refine x1 Z<|cT Z<|sO<|x1 Z ?_;exact iL ⟨_,⟨_,Z,C2 V,V⟩,A6 O Z Z Z⟩
   ·refine x1 Z<|cF Z<|sO ?_;refine mB hg gN Z Z O (λh4=>?_)<|λh4=>?_;·refine x1 Z<|cT Z<|sO<|x1 Z ?_;exact iL ⟨_,⟨_,Z,C2 V,V⟩,A6 O Z Z Z⟩
    ·refine x1 Z<|cF Z<|sO ?_;refine mB hg gN Z Z O (λh5=>?_)<|λh5=>?_;·refine x1 Z<|cT Z<|sO<|x1 Z ?_;exact iL ⟨_,⟨_,Z,C2 V,V⟩,A6 O Z Z Z⟩
     ·refine x1 Z<|cF Z<|sO ?_;refine mB hg gN Z Z O (λh6=>?_)<|λh6=>?_;·refine x1 Z<|cT Z<|sO<|x1 Z ?_;exact iL ⟨_,⟨_,Z,C2 V,V⟩,A6 O Z Z Z⟩
      ·refine x1 Z<|cF Z<|sO ?_;refine mB hg gN Z Z O (λh7=>?_)<|λh7=>?_;·refine x1 Z<|cT Z<|sO<|x1 Z ?_;exact iL ⟨_,⟨_,Z,C2 V,V⟩,A6 O Z Z Z⟩
       ·refine x1 Z<|cF Z<|sO ?_;refine mB hg gN Z Z O (λh8=>?_)<|λh8=>?_;·refine x1 Z<|cT Z<|sO<|x1 Z ?_;exact iL ⟨_,⟨_,Z,C2 V,V⟩,A6 O Z Z Z⟩
        ·refine x1 Z<|cF Z<|kM<|sO<|x1 Z ?_;exact iL ⟨_,⟨_,Z,C2 V,V⟩,A6 O Z Z Z⟩
theorem errP (hg:hGr W0 G){n:Int}:cP W0 145 [J U n] [] (E5 4 0 0 [] false n) []:=by refine goM 145 5 ?_;refine sO<|mV (v:=aP 0 0) Z<|mn<|sO<|m2 Z Z<|Ai hg gN Z<|mn ?_;exact iL<|pL
theorem Ye (hg:hGr W0 G){s:Bz}{n:Nat}{low high:Int}(hs:N s≤150000000000000)(hn:n≤N s)(hn2:2≤n)(hn4:n≤4)(hS:low≤((s.getD 1 0).toNat:Int)→((s.getD 1 0).toNat:Int)≤high→(∀k,2≤k→k<n→128≤(s.getD k 0).toNat∧(s.getD k 0).toNat≤191)→Le s 0 n):ExM gH W0 0 RF ⟨.al [(0,S s),(4,J U (n:Nat)),(5,J U low),(6,J U high)],[],79⟩ (λe s'=>∃v,(∃n:Nat,v=J U (n:Nat)∧n≤N s∧n≤4∧(n=0∨Le s 0 n))∧Ja KF101.res 0 v [] e s'):=by
 refine sq<|sO<|mV Z<|mS (v:=J .u8 ((s.getD 1 0).toNat:Nat)) (J8 (n:=1) Z Z)<|mK (v:=J U ((s.getD 1 0).toNat:Nat)) Z (Bw Y (by grind[UP]) Z)<|mV Z ?_;refine mB hg gN Z Z O (λh1=>?_)<|λh1=>?_;·refine mV Z<|mG<|mG<|mG<|mG<|mG<|x1 Z<|cT Z<|sO<|x1 Z<|iL ?_;exact⟨_,⟨0,Z,hZ _,V,.inl Z⟩,A6 O Z Z Z⟩
 ·have hlow:=Int.not_lt.1<|of_decide_eq_false h1;refine m2 Z Z<|mS (v:=J .u8 ((s.getD 1 0).toNat:Nat)) (J8 (n:=1) Z Z)<|mK (v:=J U ((s.getD 1 0).toNat:Nat)) Z (Bw Y (by grind[UP]) Z)<|mV Z ?_;refine mB hg (gS Z) Z Z O (λh2=>?_)<|λh2=>?_;·refine x1 Z<|cT Z<|sO<|x1 Z<|iL ?_;exact⟨_,⟨0,Z,hZ _,V,.inl Z⟩,A6 O Z Z Z⟩
  ·have hhigh:=Int.not_lt.1<|of_decide_eq_false h2;refine x1 Z<|cF Z<|kM<|sq<|sO<|x1 Z<|bM<|iU (σ:=Nat) (λi=>⟨.al [(0,S s),(4,J U (n:Nat)),(7,J U (i:Nat))],[],79⟩) (λi=>2≤i∧i≤n∧∀k,2≤k→k<i→128≤(s.getD k 0).toNat∧(s.getD k 0).toNat≤191) (λi=>n-i) 2 (As 0 Z (bC _) Z Z<|fS<|fI<|fI fzN) ⟨Y,Y,λk h1 h2=>by omega⟩ ?_;rintro i ⟨hi2,hi,hall⟩;refine sq<|sO<|m2 Z Z ?_;by_cases hin:i<n
   ·refine mT Z<|mn<|cT Z<|kM<|sq<|bM<|sO<|m2 Z Z<|mS (v:=J .u8 ((s.getD i 0).toNat:Nat)) (J8 Z Z) ?_;refine mB hg gN Z Z O (λh3=>?_)<|λh3=>?_;·refine mV Z<|mG<|mG<|mG<|mG<|x1 Z<|cT Z<|sO<|x1 Z<|iL ?_;exact⟨_,⟨0,Z,hZ _,V,.inl Z⟩,A6 O Z Z Z⟩
    ·have hb1:=of_decide_eq_false h3;refine m3 Z Z Z<|mS (v:=J .u8 ((s.getD i 0).toNat:Nat)) (J8 Z Z) ?_;refine mB hg (gS Z) Z Z O (λh4=>?_)<|λh4=>?_;·refine x1 Z<|cT Z<|sO<|x1 Z<|iL ?_;exact⟨_,⟨0,Z,hZ _,V,.inl Z⟩,A6 O Z Z Z⟩
     ·have hb2:=of_decide_eq_false h4;refine x1 Z<|cF Z<|kM<|oM<|mV Z<|mI ((i+1:Nat)) Z<|x1 Z ?_;exact⟨i+1,⟨Y,Y,λk h1 h2=>(Nat.lt_or_ge k i).elim (hall k h1) (λh=>by grind)⟩,Y,As 0 Z (bC _) Z Z<|fS<|fI<|fI fzN⟩
   ·refine mF Z<|mn<|cF Z<|iN<|sO<|x2 Z Z<|iL ?_;exact⟨_,⟨n,Z,Y,Y,.inr<|hS hlow hhigh λk h1 h2=>hall k h1 Y⟩,A6 O Z Z Z⟩
theorem signE (hg:hGr W0 G){s:Bz}(hs:N s≤150000000000000):Aw gH W0 155 [S s] (λv=>∃n:Nat,v=J U (n:Nat)∧n≤N s∧n≤4∧(n=0∨Le s 0 n)):=by
 refine Aw.of_fnM KG101 B4 Z<|iO<|iM hg<|Ac hg gN Z Z O<|Bg<|iO<|iO<|iM hg<|Ac hg gN Z Z O<|Ac hg gN Z Z O ?_;by_cases hem:N s=0;·refine mT Z<|mn<|cT Z<|sO<|x1 Z<|iL ?_;exact⟨_,⟨0,Z,hZ _,V,.inl Z⟩,A6 O Z Z Z⟩
 have ha:=UP s 0;refine mF Z<|mn<|cF Z<|kM<|sO<|mV Z<|mS (v:=J .u8 ((s.getD 0 0).toNat:Nat)) (J8 (n:=0) Z Z)<|mK (v:=J U ((s.getD 0 0).toNat:Nat)) Z (Bw Y Y Z)<|x1 Z<|sq<|sO<|mV Z ?_;by_cases h1:(s.getD 0 0).toNat<128;·refine mT Z<|mn<|cT Z<|sO<|x1 Z<|iL ?_;exact⟨_,⟨1,Z,Y,V,.inr ⟨Y,.inl ⟨Z,by grind[bt]⟩⟩⟩,A6 trivial rfl rfl rfl⟩
 refine mF Z<|mn<|cF Z<|kM<|sO<|x1 Z<|sO<|x1 Z<|sO<|x1 Z<|sq<|sO<|mV Z ?_;by_cases h2:(s.getD 0 0).toNat<194;·refine mF Z<|mV Z<|mG<|mG<|x1 Z<|cF Z<|kM<|sq<|sO<|mV Z<|mF Z<|mV Z<|mG<|mG<|x1 Z<|cF Z<|kM<|sq<|sO<|mV Z<|mF Z<|mV Z<|mG<|mG<|x1 Z<|cF Z<|kM<|sq<|sO<|mV Z<|mT Z<|mV Z<|mG<|mG<|mG<|mG<|x1 Z<|cT Z<|sO<|x1 Z<|iL ?_;exact⟨_,⟨0,Z,hZ _,V,.inl Z⟩,A6 O Z Z Z⟩
 refine mT Z<|m2 Z Z ?_;by_cases h3:244<(s.getD 0 0).toNat;·refine mF Z<|x1 Z<|cF Z<|kM<|sq<|sO<|mV Z<|mT Z<|m2 Z Z<|mF Z<|x1 Z<|cF Z<|kM<|sq<|sO<|mV Z<|mT Z<|m2 Z Z<|mF Z<|x1 Z<|cF Z<|kM<|sq<|sO<|mV Z<|mT Z<|mV Z<|mG<|mG<|mG<|mG<|x1 Z<|cT Z<|sO<|x1 Z<|iL ?_;exact⟨_,⟨0,Z,hZ _,V,.inl Z⟩,A6 O Z Z Z⟩
 by_cases h4:(s.getD 0 0).toNat≤223
 ·refine mT Z<|x1 Z<|cT Z<|oM<|x1 Z<|sq<|sO<|mV Z<|mF Z<|mV Z<|mG<|mG<|x1 Z<|cF Z<|kM<|sq<|sO<|mV Z<|mF Z<|mV Z<|mG<|mG<|x1 Z<|cF Z<|kM<|sq<|sO<|mV Z<|mF Z<|m4 Z Z Z Z ?_;refine mB hg (gS Z) Z Z O (λh1=>?_)<|λh1=>?_;·refine x1 Z<|cT Z<|sO<|x1 Z<|iL ?_;exact⟨_,⟨0,Z,hZ _,V,.inl Z⟩,A6 O Z Z Z⟩
  ·have hsl:=of_decide_eq_false h1;refine x1 Z<|cF Z<|kM<|sq<|sO<|x1 Z<|bM<|sO<|mF Z<|x1 Z<|cF Z<|sO<|mF Z<|x1 Z<|cF Z<|sO<|mF Z<|x1 Z<|cF Z<|sO<|mF Z<|x1 Z<|cF Z<|kM ?_;exact jL (As 0 Z (bC _) Z Z<|fS<|fI<|fI<|fI fzN)<|Ye hg (n:=2) (low:=128) (high:=191) hs Y V V<|λh1 h2 h3=>HW Y Y h1 h2 h3
 refine mF Z<|x1 Z<|cF Z<|kM<|sq<|sO<|mV Z<|mT Z<|m2 Z Z ?_;by_cases h5:(s.getD 0 0).toNat=224
 ·refine mT Z<|x1 Z<|cT Z<|oM<|x1 Z<|sq<|sO<|mV Z<|mF Z<|mV Z<|mG<|mG<|x1 Z<|cF Z<|kM<|sq<|sO<|mV Z<|mF Z<|m4 Z Z Z Z ?_;refine mB hg (gS Z) Z Z O (λh1=>?_)<|λh1=>?_;·refine x1 Z<|cT Z<|sO<|x1 Z<|iL ?_;exact⟨_,⟨0,Z,hZ _,V,.inl Z⟩,A6 O Z Z Z⟩
  ·have hsl:=of_decide_eq_false h1;refine x1 Z<|cF Z<|kM<|sq<|sO<|x1 Z<|bM<|sO<|mT Z<|x1 Z<|cT Z<|oM<|x1 Z ?_;exact jL (As 0 Z (bC _) Z Z<|fS<|fI<|fI<|fI fzN)<|Ye hg (n:=3) (low:=160) (high:=191) hs Y V V<|λh1 h2 h3=>HW Y Y h1 h2 h3
 by_cases h6:(s.getD 0 0).toNat=237
 ·refine mT Z<|x1 Z<|cT Z<|oM<|x1 Z<|sq<|sO<|mV Z<|mF Z<|mV Z<|mG<|mG<|x1 Z<|cF Z<|kM<|sq<|sO<|mV Z<|mF Z<|m4 Z Z Z Z ?_;refine mB hg (gS Z) Z Z O (λh1=>?_)<|λh1=>?_;·refine x1 Z<|cT Z<|sO<|x1 Z<|iL ?_;exact⟨_,⟨0,Z,hZ _,V,.inl Z⟩,A6 O Z Z Z⟩
  ·have hsl:=of_decide_eq_false h1;refine x1 Z<|cF Z<|kM<|sq<|sO<|x1 Z<|bM<|sO<|mF Z<|x1 Z<|cF Z<|sO<|mT Z<|x1 Z<|cT Z<|oM<|x1 Z ?_;exact jL (As 0 Z (bC _) Z Z<|fS<|fI<|fI<|fI fzN)<|Ye hg (n:=3) (low:=128) (high:=159) hs Y V V<|λh1 h2 h3=>HW Y Y h1 h2 h3
 by_cases h7:(s.getD 0 0).toNat≤239
 ·refine mT Z<|x1 Z<|cT Z<|oM<|x1 Z<|sq<|sO<|mV Z<|mF Z<|mV Z<|mG<|mG<|x1 Z<|cF Z<|kM<|sq<|sO<|mV Z<|mF Z<|m4 Z Z Z Z ?_;refine mB hg (gS Z) Z Z O (λh1=>?_)<|λh1=>?_;·refine x1 Z<|cT Z<|sO<|x1 Z<|iL ?_;exact⟨_,⟨0,Z,hZ _,V,.inl Z⟩,A6 O Z Z Z⟩
  ·have hsl:=of_decide_eq_false h1;refine x1 Z<|cF Z<|kM<|sq<|sO<|x1 Z<|bM<|sO<|mF Z<|x1 Z<|cF Z<|sO<|mF Z<|x1 Z<|cF Z<|sO<|mF Z<|x1 Z<|cF Z<|sO<|mF Z<|x1 Z<|cF Z<|kM ?_;exact jL (As 0 Z (bC _) Z Z<|fS<|fI<|fI<|fI fzN)<|Ye hg (n:=3) (low:=128) (high:=191) hs Y V V<|λh1 h2 h3=>HW Y Y h1 h2 h3
 refine mF Z<|x1 Z<|cF Z<|kM<|sq<|sO<|mV Z<|mT Z<|m2 Z Z<|mT Z<|x1 Z<|cT Z<|oM<|x1 Z<|sq<|sO<|mV Z<|mF Z<|m4 Z Z Z Z ?_;by_cases h8:(s.getD 0 0).toNat=240
 ·refine mB hg (gS Z) Z Z O (λh1=>?_)<|λh1=>?_;·refine x1 Z<|cT Z<|sO<|x1 Z<|iL ?_;exact⟨_,⟨0,Z,hZ _,V,.inl Z⟩,A6 O Z Z Z⟩
  ·have hsl:=of_decide_eq_false h1;refine x1 Z<|cF Z<|kM<|sq<|sO<|x1 Z<|bM<|sO<|mF Z<|x1 Z<|cF Z<|sO<|mF Z<|x1 Z<|cF Z<|sO<|mT Z<|x1 Z<|cT Z<|oM<|x1 Z ?_;exact jL (As 0 Z (bC _) Z Z<|fS<|fI<|fI<|fI fzN)<|Ye hg (n:=4) (low:=144) (high:=191) hs Y V V<|λh1 h2 h3=>HW Y Y h1 h2 h3
 by_cases h9:(s.getD 0 0).toNat=244
 ·refine mB hg (gS Z) Z Z O (λh1=>?_)<|λh1=>?_;·refine x1 Z<|cT Z<|sO<|x1 Z<|iL ?_;exact⟨_,⟨0,Z,hZ _,V,.inl Z⟩,A6 O Z Z Z⟩
  ·have hsl:=of_decide_eq_false h1;refine x1 Z<|cF Z<|kM<|sq<|sO<|x1 Z<|bM<|sO<|mF Z<|x1 Z<|cF Z<|sO<|mF Z<|x1 Z<|cF Z<|sO<|mF Z<|x1 Z<|cF Z<|sO<|mT Z<|x1 Z<|cT Z<|oM<|x1 Z ?_;exact jL (As 0 Z (bC _) Z Z<|fS<|fI<|fI<|fI fzN)<|Ye hg (n:=4) (low:=128) (high:=143) hs Y V V<|λh1 h2 h3=>HW Y Y h1 h2 h3
 refine mB hg (gS Z) Z Z O (λh1=>?_)<|λh1=>?_;·refine x1 Z<|cT Z<|sO<|x1 Z<|iL ?_;exact⟨_,⟨0,Z,hZ _,V,.inl Z⟩,A6 O Z Z Z⟩
 ·have hsl:=of_decide_eq_false h1;refine x1 Z<|cF Z<|kM<|sq<|sO<|x1 Z<|bM<|sO<|mF Z<|x1 Z<|cF Z<|sO<|mF Z<|x1 Z<|cF Z<|sO<|mF Z<|x1 Z<|cF Z<|sO<|mF Z<|x1 Z<|cF Z<|kM ?_;exact jL (As 0 Z (bC _) Z Z<|fS<|fI<|fI<|fI fzN)<|Ye hg (n:=4) (low:=128) (high:=191) hs Y V V<|λh1 h2 h3=>HW Y Y h1 h2 h3
theorem isTextE (hg:hGr W0 G){s:Bz}(hs:N s≤100000):Aw gH W0 211 [S s] (λv=>∃b,v=I b∧(b=true→Txt s 0)):=by
 refine goE 211 30 ?_;refine iO<|iM hg<|Ac hg gN Z Z O<|Bg<|iO<|iO<|iM hg<|Ac hg gN Z Z O<|Bg<|jK<|iU (σ:=Nat) (λi=>⟨.al [(0,S s),(3,J U (i:Nat))],[],30⟩) (λi=>i≤N s∧(Txt s i→Txt s 0)) (λi=>N s-i) 0 (As 0 Z (bC _) Z Z<|fS<|fI fzN) ⟨hZ _,id⟩ ?_;rintro i ⟨hi,hT⟩;refine sq<|sO<|m3 Z Z Z ?_;by_cases hin:i<N s
 ·refine mT Z<|mn<|cT Z<|kM<|bM<|sO<|m2 Z Z<|mS (v:=S<|s.drop i) Z ?_;refine C4 hg gN Z Z Z (signE hg (s:=s.drop i) (by grind)) ?_ ?_;·rintro _ ⟨n,rfl,hn,hn4,hsg⟩;rfl
  rintro _ ⟨n,rfl,hn,hn4,hsg⟩;rw[jG]at hn;refine x1 Z<|sq<|sO<|mV Z ?_;refine mB hg gN Z Z O (λh1=>?_)<|λh1=>?_;·refine mV Z<|mG<|mG<|mG<|mG<|m2 Z Z<|mG<|mG<|mG<|mG<|x1 Z<|cT Z<|sO<|x1 Z<|iL ?_;exact⟨_,⟨false,rfl,λh=>by cases h⟩,A6 trivial rfl rfl rfl⟩
  ·have hn0:n≠0:=by grind
   refine m3 Z Z Z<|mS (v:=J .u8 ((s.getD i 0).toNat:Nat)) (J8 Z Z) ?_;refine mB hg (gS Z) Z Z O (λh2=>?_)<|λh2=>?_;·refine m2 Z Z<|mG<|mG<|mG<|mG<|x1 Z<|cT Z<|sO<|x1 Z<|iL ?_;exact⟨_,⟨false,rfl,λh=>by cases h⟩,A6 trivial rfl rfl rfl⟩
   ·have hb1:=of_decide_eq_false h2;refine m4 Z Z Z Z<|mS (v:=J .u8 ((s.getD i 0).toNat:Nat)) (J8 Z Z) ?_;refine mB hg (gS Z) Z Z O (λh3=>?_)<|λh3=>?_;·refine x1 Z<|cT Z<|sO<|x1 Z<|iL ?_;exact⟨_,⟨false,rfl,λh=>by cases h⟩,A6 trivial rfl rfl rfl⟩
    ·have hb2:=h3;rw[bFn]at hb2;refine x1 Z<|cF Z<|kM<|oM<|m2 Z Z<|mI ((i+n:Nat)) Z<|x1 Z ?_;exact⟨i+n,⟨Y,λh=>hT<|.step ((hsg.resolve_left hn0).undrop hi) (by grind[bt]) (by grind[bt]) h⟩,Y,As 0 Z (bC _) Z Z<|fS<|fI fzN⟩
 ·refine mF Z<|mn<|cF Z<|iN<|sO<|x1 Z<|iL ?_;have hil:i=N s:=Y;subst hil;exact⟨_,⟨true,Z,λ_=>hT .done⟩,A6 O Z Z Z⟩
theorem CH (hg:hGr W0 G){s:Bz}(hs:N s≤100000):Aw gH W0 146 [S s] (λv=>∃b,v=I b∧(b=true→Txt s 0)):=by
 refine goE 146 10 ?_;refine sO<|x1 Z<|sO<|m2 Z Z ?_;refine mB hg gN Z Z O (λh1=>?_)<|λh1=>?_
 ·refine m2 Z Z ?_;refine C4 hg (gS Z) Z Z Z (isTextE hg hs) ?_ ?_;·rintro _ ⟨b,rfl,hb⟩;rfl
  rintro _ ⟨b,rfl,hb⟩;refine x2 Z Z ?_;exact iL ⟨_,⟨_,Z,hb⟩,A6 O Z Z Z⟩
 ·refine mV Z<|mG<|mG<|x2 Z Z ?_;exact iL ⟨_,⟨_,rfl,λh=>by cases h⟩,A6 trivial rfl rfl rfl⟩
theorem textOfE (hg:hGr W0 G){s:Bz}(hs:N s≤150000000000000):Aw gH W0 99 [S s] (λv=>∃t,v=S t∧N t≤40):=by
 refine goE 99 47 ?_;refine iO<|iM hg<|Ac hg gN Z Z O<|Bg<|iO<|iM hg<|Ac hg gN Z Z O<|Bg<|iO<|iO<|iM hg<|Ac hg gN Z Z O<|Bg<|jK<|iU (σ:=Nat×Bz) (λσ=>⟨.al [(0,S s),(3,S σ.2),(4,J U (σ.1:Nat))],[],47⟩) (λσ=>σ.1≤N s∧N σ.2≤40) (λσ=>N s-σ.1) (0,[]) (As 0 Z (bC _) Z Z<|fS<|fS<|fI fzN) ⟨hZ _,B4⟩ ?_;rintro⟨i,t⟩ ⟨hi,ht⟩;simp only at hi ht⊢;by_cases hin:i<N s
 ·refine sq<|sO<|m3 Z Z Z<|mT Z<|m3 Z Z Z ?_;by_cases ht37:N t<37
  ·refine mT Z<|x1 Z<|cT Z<|kM<|bM<|sO<|m2 Z Z<|mS (v:=S<|s.drop i) Z ?_;refine C4 hg gN Z Z Z (signE hg (s:=s.drop i) (by grind)) ?_ ?_;·rintro _ ⟨n,rfl,hn,hn4,hsg⟩;rfl
   rintro _ ⟨n,rfl,hn,hn4,hsg⟩;rw[jG]at hn;refine x1 Z<|sq<|sO<|mV Z ?_;refine mB hg gN Z Z O (λh1=>?_)<|λh1=>?_;·refine mV Z<|mG<|mG<|mG<|mG<|m2 Z Z<|mG<|mG<|mG<|mG<|x1 Z<|cT Z<|sO<|mV Z<|mI ((i+1:Nat)) Z<|x1 Z<|iN ?_;first|exact⟨(i+1,t),⟨Y,Y⟩,Y,As 0 rfl (bC _) rfl rfl<|fS<|fS<|fI fzN⟩|exact⟨(i+n,t++(s.take<|i+n).drop i),⟨bY8,bY49⟩,bY8,As 0 rfl (bC _) rfl rfl<|fS<|fS<|fI fzN⟩
   ·have hn0:n≠0:=by grind
    refine m3 Z Z Z<|mS (v:=J .u8 ((s.getD i 0).toNat:Nat)) (J8 Z Z) ?_;refine mB hg (gS Z) Z Z O (λh2=>?_)<|λh2=>?_;·refine m2 Z Z<|mG<|mG<|mG<|mG<|x1 Z<|cT Z<|sO<|mV Z<|mI ((i+1:Nat)) Z<|x1 Z<|iN ?_;first|exact⟨(i+1,t),⟨Y,Y⟩,Y,As 0 rfl (bC _) rfl rfl<|fS<|fS<|fI fzN⟩|exact⟨(i+n,t++(s.take<|i+n).drop i),⟨bY8,bY49⟩,bY8,As 0 rfl (bC _) rfl rfl<|fS<|fS<|fI fzN⟩
    ·refine m4 Z Z Z Z<|mS (v:=J .u8 ((s.getD i 0).toNat:Nat)) (J8 Z Z) ?_;refine mB hg (gS Z) Z Z O (λh3=>?_)<|λh3=>?_;·refine x1 Z<|cT Z<|sO<|mV Z<|mI ((i+1:Nat)) Z<|x1 Z<|iN ?_;first|exact⟨(i+1,t),⟨Y,Y⟩,Y,As 0 rfl (bC _) rfl rfl<|fS<|fS<|fI fzN⟩|exact⟨(i+n,t++(s.take<|i+n).drop i),⟨bY8,bY49⟩,bY8,As 0 rfl (bC _) rfl rfl<|fS<|fS<|fI fzN⟩
     ·refine x1 Z<|cF Z<|kM<|sO<|mV Z<|m4 Z Z Z Z<|mI ((i+n:Nat)) Z<|mS (v:=S<|(s.take<|i+n).drop i) Z<|Ac hg gN Z Z (by simp only[Ah,and_true,jG,List.length_take];omega)<|x1 Z<|oM<|m2 Z Z<|mI ((i+n:Nat)) Z<|x1 Z ?_;first|exact⟨(i+1,t),⟨Y,Y⟩,Y,As 0 rfl (bC _) rfl rfl<|fS<|fS<|fI fzN⟩|exact⟨(i+n,t++(s.take<|i+n).drop i),⟨Y,by grind⟩,Y,As 0 rfl (bC _) rfl rfl<|fS<|fS<|fI fzN⟩
  ·refine mF Z<|x1 Z<|cF Z<|iN<|sO<|x2 Z Z<|iL ?_;exact⟨_,⟨t,Z,ht⟩,A6 O Z Z Z⟩
 ·refine sq<|sO<|m3 Z Z Z<|mF Z<|mV Z<|mG<|mG<|mG<|x1 Z<|cF Z<|iN<|sO<|x2 Z Z<|iL ?_;exact⟨_,⟨t,Z,ht⟩,A6 O Z Z Z⟩
def u8s (l:List Nat):List AVal:=l.map λ(d:Nat)=>J .u8 d
theorem Wu (l:List Nat):N (u8s l)=N l:=by simp[u8s]
theorem RL {l:List Nat}{i:Nat}(h:i<N l):(u8s l).drop i=J .u8 (l.getD i 0:Nat)::(u8s l).drop (i+1):=by rw[u8s,←List.map_drop,←List.map_drop,Y3 h];rfl
theorem NB {s:St}{x i:AOpd}{id T m:Nat}{c:Option Nat}{cs:List AVal}{n:Nat}(hx:ev G s x=some (aH 1 id 0 m c))(hi:ev G s i=some (J U (n:Nat)))(ho:s.H[id]?=some (C T cs false)):aop G s (.idxSl 1 x i)=some (.val (aP id n) s.H [(0,(n:Nat)),((n:Nat)+1,(m:Nat))]):=by simp_all[Lu,aop]
theorem JK {s:St}{a:AOpd}{id T:Nat}{l:List Nat}{n:Nat}(ha:ev G s a=some (aP id n))(ho:s.H[id]?=some (C T (u8s l) false))(hn:n<N l):aop G s (.load 1 false a)=some (.val (J .u8 (l.getD n 0:Nat)) s.H []):=by simp only[aop,ha,Jf,ho,C3,RL hn];rfl
theorem u8s_set {l:List Nat}{n x:Nat}(h:n<N l):spl (u8s l) n [J .u8 (x:Nat)]=u8s (l.set n x):=by simp_all[spl,u8s,List.set_eq_take_append_cons_drop]
theorem TX {s:St}{a x:AOpd}{id T:Nat}{l:List Nat}{n v:Nat}{H':Hz}(ha:ev G s a=some (aP id n))(hx:ev G s x=some (J .u8 (v:Nat)))(ho:s.H[id]?=some (C T (u8s l) false))(hn:n<N l)(hH:s.H.set id (C T (u8s<|l.set n v) false)=H'):aop G s (.store 1 a x)=some (.skip H'):=by
 subst hH;have h1:bK (n+1) (N<|u8s l)=true:=by rw[Wu];exact Nat.ble_eq_true_of_le hn
 have h2:(aA (N [J .u8 (v:Nat)]) 1&&bK (n+1) (N<|u8s l)&&[J .u8 (v:Nat)].all fW)=true:=by rw[h1];rfl
 simp only[aop,ha,hx,Nc,ho];show(match(cond (aA (N [J .u8 (v:Nat)]) 1&&bK (n+1) (N<|u8s l)&&[J .u8 (v:Nat)].all fW) (some<|s.H.set id<|C T (spl (u8s l) n [J .u8 (v:Nat)]) false) none)with|some H'=>some (ARes.skip H')|none=>none)=_;grind[u8s_set]
theorem bytesU (l:List Nat):bytesOf (u8s l)=some (l.map iI):=by induction l with|nil=>rfl|cons d l ih=>show(match bytesOf (u8s l)with|some l'=>some (iI (((d:Nat):Int)).toNat::l')|none=>none)=_;rw[ih];rfl
theorem b2sB {s:St}{x:AOpd}{id T m:Nat}{c:Option Nat}{l:List Nat}(hx:ev G s x=some (aH 1 id 0 m c))(ho:s.H[id]?=some (C T (u8s l) false))(hm:m=N l):aop G s (.conv .b2s x)=some (.val (S<|l.map iI) s.H []):=by
 subst hm;have h1:((u8s l).drop 0).take (N l*1)=u8s l:=by simp_all[List.take_of_length_le,Wu]
 simp only[aop,hx,Qj,ab2s,Cm,fY,cond_true,ho,h1,bytesU];rfl
theorem s2bB (s:Bz):(s.map λb=>J .u8 (b.toNat:Nat))=u8s (s.map UInt8.toNat):=by rw[u8s,List.map_map];rfl
theorem Ov {k T:Nat}(l:List Nat):B7 k [C T (u8s l) false]=true:=by
 have:A8 k (u8s l)=true:=by induction l with|nil=>rfl|cons d l ih=>exact ih
 show cond (A8 k<|u8s l) true false=true;grind
theorem foldE (hg:hGr W0 G){s:Bz}(hs:N s≤100000):Aw gH W0 143 [S s] (λv=>∃t,v=S t):=by
 refine goE 143 35 ?_;refine iO<|iM hg<|Ac hg gN Z Z O<|Bg<|iO<|iM hg<|Ac hg gN Z Z O<|Ac hg gN (v:=aH 1 0 0 (N s) none) Z Z O<|Ac hg gN Z Z O<|Bg<|iO<|iO<|iM hg<|Ac hg gN Z Z O<|Bg<|jK<|iU (σ:=Nat×List Nat) (λσ=>⟨.al [(3,aH 1 0 0 (N s) none),(4,J U (σ.1:Nat))],[C 5 (u8s σ.2) false],35⟩) (λσ=>σ.1≤N s∧N σ.2=N s) (λσ=>N s-σ.1) (0,s.map UInt8.toNat) (As 1 Z (hZ _) (by rw[←s2bB];rfl) (Ov _)<|fzC Z (fvH Z)<|fI fzN) ⟨hZ _,B4⟩ ?_;rintro⟨i,l⟩ ⟨hi,hl⟩;simp only at hi hl⊢;refine sq<|sO<|m3 Z Z Z ?_;by_cases hin:i<N s
 ·refine mT Z<|mn<|cT Z<|kM<|sq<|bM<|sO<|m2 Z Z<|mS (v:=aP 0 i) (NB Z Z Z)<|mV (v:=J .u8 (l.getD i 0:Nat)) (JK Z Z Y) ?_;by_cases h65:65≤l.getD i 0
  ·refine mT Z<|m3 Z Z Z<|mS (v:=aP 0 i) (NB Z Z Z)<|mV (v:=J .u8 (l.getD i 0:Nat)) (JK Z Z Y) ?_;by_cases h90:l.getD i 0≤90;·refine mT Z<|x1 Z<|cT Z<|oM<|m4 Z Z Z Z<|mS (v:=aP 0 i) (NB Z Z Z)<|mV (v:=J .u8 (l.getD i 0:Nat)) (JK Z Z Y)<|mKs (v:=J .u8<|(l.getD i 0+32:Nat)) Z (w8E Y Y Y)<|mS (v:=aP 0 i) (NB Z Z Z)<|Ai hg gN (TX Z Z Z Y Z)<|mn<|oM<|mV Z<|mI ((i+1:Nat)) Z<|x1 Z ?_;exact⟨(i+1,l.set i<|l.getD i 0+32),⟨Y,by grind⟩,Y,As 1 rfl (hZ _) rfl (Ov _)<|fzC Z (fvH Z)<|fI fzN⟩
   ·refine mF Z<|x1 Z<|cF Z<|kM<|oM<|mV Z<|mI ((i+1:Nat)) Z<|x1 Z ?_;exact⟨(i+1,l),⟨Y,hl⟩,Y,As 1 Z (hZ _) Z (Ov _)<|fzC Z (fvH Z)<|fI fzN⟩
  ·refine mF Z<|mV Z<|mG<|mG<|mG<|mG<|mG<|x1 Z<|cF Z<|kM<|oM<|mV Z<|mI ((i+1:Nat)) Z<|x1 Z ?_;exact⟨(i+1,l),⟨Y,hl⟩,Y,As 1 Z (hZ _) Z (Ov _)<|fzC Z (fvH Z)<|fI fzN⟩
 ·refine mF Z<|mn<|cF Z<|iN<|sO<|mV Z<|mV (v:=S<|l.map iI) (b2sB Z Z hl.symm)<|x1 Z<|iL ?_;exact⟨_,⟨_,Z⟩,A4 O Z Z 100 Z Z⟩
end Go.Abs
namespace Go.Abs
open Go.Proofs Go.RowKit
set_option maxRecDepth 100000
variable {W0 : World} {G : List (Nat × AVal)}
set_option maxRecDepth 10000000
theorem bareK1 (hk:Kn W0){a1 a2:Int}:cP W0 141 [N110 a1 a2,J U 1] [] (I true) []:=Eo (H9 hk Qe) (show Gj gH GL Hr Qe G0 libTab 1000 60 141 [N110 a1 a2,J U 1] [] (ss0 17 [] 0 [] [] [])=some (I true,[],SS.mk 0 [] 0 [] [] [] [])by kernel_rfl)<|gdN
theorem bareK2 (hk:Kn W0){s1:Bz}:cP W0 141 [Oc s1,J U 2] [] (I true) []:=Eo (H9 hk Qe) (show Gj gH GL Hr Qe G0 libTab 1000 60 141 [Oc s1,J U 2] [] (ss0 17 [] 0 [] [] [])=some (I true,[],SS.mk 0 [] 0 [] [] [] [])by kernel_rfl)<|gdN
theorem sameK0 (hk:Kn W0){s1 s2:Bz}{a1 a2 a3:Int}{bR:Bool}:cP W0 93 [N114 a1 a2 s2 bR a3,Oc s1] [] (I false) []:=Eo (H9 hk Qe) (show Gj gH GL Hr Qe G0 libTab 1000 60 93 [N114 a1 a2 s2 bR a3,Oc s1] [] (ss0 1 [] 0 [] [] [])=some (I false,[],SS.mk 0 [] 0 [] [] [] [])by kernel_rfl)<|gdN
theorem sameK1 (hk:Kn W0){s1 s2:Bz}{a1 a2 a3:Int}{bR:Bool}:cP W0 93 [N115 a1 a2 s2 bR a3,Oc s1] [] (I false) []:=Eo (H9 hk Qe) (show Gj gH GL Hr Qe G0 libTab 1000 60 93 [N115 a1 a2 s2 bR a3,Oc s1] [] (ss0 1 [] 0 [] [] [])=some (I false,[],SS.mk 0 [] 0 [] [] [] [])by kernel_rfl)<|gdN
theorem sameK3 (hk:Kn W0){s1 s2:Bz}{a1 a2 a3:Int}{bR:Bool}:cP W0 93 [N116 a1 a2 s2 bR a3,Oc s1] [] (I false) []:=Eo (H9 hk Qe) (show Gj gH GL Hr Qe G0 libTab 1000 60 93 [N116 a1 a2 s2 bR a3,Oc s1] [] (ss0 1 [] 0 [] [] [])=some (I false,[],SS.mk 0 [] 0 [] [] [] [])by kernel_rfl)<|gdN
theorem sameK4 (hk:Kn W0){s1 s2:Bz}{a1 a2 a3:Int}{bR:Bool}:cP W0 93 [N117 a1 a2 s2 bR a3,Oc s1] [] (I false) []:=Eo (H9 hk Qe) (show Gj gH GL Hr Qe G0 libTab 1000 60 93 [N117 a1 a2 s2 bR a3,Oc s1] [] (ss0 1 [] 0 [] [] [])=some (I false,[],SS.mk 0 [] 0 [] [] [] [])by kernel_rfl)<|gdN
theorem sameK2 (hk:Kn W0){s1:Bz}:cP W0 93 [Oc s1,Oc s1] [] (I true) []:=Eo (H9 hk Qe) (show Gj gH GL Hr Qe G0 libTab 1000 60 93 [Oc s1,Oc s1] [] (ss0 2 [(false,11)] 0 [] [] [])=some (I true,[],SS.mk 0 [] 0 [] [] [] [.eq (Ba .neq (S s1)<|S s1) false])by kernel_rfl)<|gdC (obE (by simp[Ba,Yy,CQ,EL,Ws]))<|gdN
theorem sameK5 (hk:Kn W0){s1 s2:Bz}(hs:¬s2=s1):cP W0 93 [Oc s2,Oc s1] [] (I false) []:=Eo (H9 hk Qe) (show Gj gH GL Hr Qe G0 libTab 1000 60 93 [Oc s2,Oc s1] [] (ss0 2 [(true,0)] 0 [] [] [])=some (I false,[],SS.mk 0 [] 0 [] [] [] [.eq (Ba .neq (S s2)<|S s1) true])by kernel_rfl)<|gdC (obE (by grind[Ba,Yy,EL]))<|gdN
def lit (t:Bz):Prop:=X3 t∧N t≤200∧Txt (iC t [39]) 0
theorem tr39 (t:Bz):iC t [39]=t∨(∃r,t=39::r∧iC t [39]=r):=by
 cases t with
 |nil=>exact .inl rfl
 |cons c r=>
  by_cases h:c=39;·simp_all[iC]
  ·grind[gJ,iC]
theorem bt_mem {s:Bz}{i:Nat}(h:i<N s):∃b∈s,bt s i=b.toNat:=by refine⟨s[i],List.getElem_mem h,?_⟩;simp[bt,List.getD_eq_getElem?_getD,gGe h]
theorem OD {s:Bz}(h:∀b∈s,32≤b.toNat∧b.toNat<127):Txt s 0:=Txt.plain (λi hi=>by grind[bt_mem]) (N s) 0 Y
theorem QY {t:Bz}(h1:X3 t)(h2:N t≤200)(h3:∀b∈t,32≤b.toNat∧b.toNat<127):lit t:=by refine⟨h1,h2,?_⟩;grind[tr39,OD]
theorem lit_pl {t:Bz}(h:pl t)(hl:N t≤90):lit t:=QY (pl_hd h) Y λb hb=>by have:=h b hb;omega
theorem I9 {t:Bz}(h1:X3 t)(h2:(bK (N t) 200&&t.all λb=>bK 32 b.toNat&&Nat.blt b.toNat 127)=true):lit t:=by simp_all[QY]
theorem KP {s:Bz}(h:Txt s 0)(hl:N s≤40):lit (39::s):=by refine⟨C2 V,by grind,?_⟩;grind[tr39,iC,gJ]
theorem KZ {s:Bz}(h1:X3 s)(h:Txt s 0)(hl:N s≤40):lit s:=by
 refine⟨h1,Y,?_⟩;rcases tr39 s with h'|⟨r,rfl,h'⟩;·grind
 ·rw[h'];cases h with
  | @step _ n q1 _ _ q4=>
   have:n=1:=by obtain⟨_,q⟩:=q1;simp_all[bt]
   subst this;exact q4.shift (j:=1) 0 Z
theorem sameE (hk:Kn W0){k m e er:Int}{t s:Bz}{b:Bool}(h:k=0∨k=1∨k=3∨k=4∨(k=2∧m=0∧e=0∧b=false∧er=0)):Aw gH W0 93 [E5 k m e t b er,E5 2 0 0 s false 0] (λv=>∃c,v=I c):=by
 rcases h with rfl|rfl|rfl|rfl|⟨rfl,rfl,rfl,rfl,rfl⟩;·exact(jD<|sameK0 hk).mono λv hv=>⟨_,hv⟩
 ·exact(jD<|sameK1 hk).mono λv hv=>⟨_,hv⟩
 ·exact(jD<|sameK3 hk).mono λv hv=>⟨_,hv⟩
 ·exact(jD<|sameK4 hk).mono λv hv=>⟨_,hv⟩
 ·by_cases hs:t=s;·subst hs;exact(jD<|sameK2 hk).mono λv hv=>⟨_,hv⟩
  ·exact(jD<|sameK5 hk hs).mono λv hv=>⟨_,hv⟩
theorem readV (hg:hGr W0 G){s:Bz}(hs:N s≤10000):Aw gH W0 92 [S s] (λv=>∃(k m e er err:Int) (t:Bz) (b:Bool),v=aU [(E5 k m e t b er),J U err]∧(err=0→X3 s)∧(k=0∨k=1∨k=3∨k=4∨(k=2∧m=0∧e=0∧b=false∧er=0))):=by
 refine goE 92 60 ?_;by_cases hem0:N s=0
 ·have hem:X3 s:=by grind[Kq]
  refine sO<|mV (v:=aP 0 0) Z<|x1 Z<|sq<|sO<|m2 Z Z<|mT Z<|mn<|cT Z<|sO<|mV Z<|Ai hg gN Z<|x1 Z ?_;exact iL ⟨_,⟨_,_,_,_,_,_,_,Z,(λ_=>hem),.inl Z⟩,A4 O Z Z 100 Z Z⟩
 ·by_cases h61:s.getD 0 0=61;·refine sO<|mV (v:=aP 0 0) Z<|x1 Z<|sq<|sO<|m2 Z Z<|mF Z<|mn<|cF Z<|kM<|sq<|sO<|mV Z<|mS (v:=J .u8 ((s.getD 0 0).toNat:Nat)) (J8 (n:=0) Z Z)<|mBk hg gN (c:=true) Z Z (by simp_all)<|mn<|cT Z<|sO<|mV Z<|Ai hg gN Z<|x1 Z<|iL ?_;exact⟨_,⟨_,_,_,_,_,_,_,rfl,(λh=>by cases h),.inl rfl⟩,A4 trivial rfl rfl 100 rfl rfl⟩
  ·have h61':X3 s:=λc r e=>by grind
   refine sO<|mV (v:=aP 0 0) Z<|x1 Z<|sq<|sO<|m2 Z Z<|mF Z<|mn<|cF Z<|kM<|sq<|sO<|mV Z<|mS (v:=J .u8 ((s.getD 0 0).toNat:Nat)) (J8 (n:=0) Z Z)<|mBk hg gN (c:=false) Z Z (by rw[bFn];intro e;exact h61<|UInt8.toNat_inj.1 (by grind))<|mn<|cF Z<|kM<|sO<|mV Z ?_;refine C4 hg gN Z Z Z (readE hg Y) ?_ ?_;·rintro _ ⟨pM,pE,pe,rfl⟩;rfl
   rintro _ ⟨pM,pE,pe,rfl⟩;refine m3 Z Z Z<|mV (v:=aP 1 0) Z<|Ai hg gN Z<|x1 Z<|sq<|sO<|mV Z ?_;refine mB hg gN Z Z O (λh1=>?_)<|λh1=>?_;·refine mn<|cT Z<|sO<|m2 Z Z<|Ai hg gN Z<|x1 Z<|iL ?_;exact⟨_,⟨_,_,_,_,_,_,_,Z,(λ_=>h61'),.inr<|.inl Z⟩,A4 O Z Z 100 Z Z⟩
   ·refine mn<|cF Z<|kM<|sO<|mV Z ?_;refine C4 hg gN Z Z Z (foldE hg Y) ?_ ?_;·rintro _ ⟨f,rfl⟩;rfl
    rintro _ ⟨f,rfl⟩;refine x1 Z<|sq<|sO<|mV Z ?_;refine mB hg gN Z Z O (λh2=>?_)<|λh2=>?_
    ·refine mV Z<|mG<|mG<|x1 Z<|cT Z<|sO<|mV Z ?_;refine mB hg gN Z Z O (λh3=>?_)<|λh3=>?_;·refine mV Z<|Ai hg gN Z<|x1 Z<|iL ?_;exact⟨_,⟨_,_,_,_,_,_,_,Z,(λ_=>h61'),.inr<|.inr<|.inl Z⟩,A4 O Z Z 100 Z Z⟩
     grind
    ·refine m2 Z Z ?_;refine mB hg (gS Z) Z Z O (λh4=>?_) (λh4=>?_)
     ·refine x1 Z<|cT Z<|sO<|mV Z ?_;refine mB hg gN Z Z O (λh5=>?_)<|λh5=>?_;·grind
      ·refine mV Z<|Ai hg gN Z<|x1 Z<|iL ?_;exact⟨_,⟨_,_,_,_,_,_,_,Z,(λ_=>h61'),.inr<|.inr<|.inl Z⟩,A4 O Z Z 100 Z Z⟩
     ·refine x1 Z<|cF Z<|kM<|sq<|sO<|x1 Z<|bM<|iU (σ:=Nat) (λj=>⟨.al [(0,S s),(2,aP 0 0),(6,S f),(7,J U (j:Nat))],[IQ],60⟩) (λj=>j≤10) (λj=>10-j) 1 (As 1 Z (hZ _) Z Z<|fS<|fzC Z (fvP Z)<|fS<|fI fzN) V ?_;rintro j hj;refine sq<|sO<|mV Z ?_;by_cases hj9:j≤9
      ·refine mT Z<|mn<|cT Z<|kM<|sq<|bM<|sO<|m2 Z Z ?_;refine C4 hg gN Z Z Z (nameE hg) ?_ ?_;·rintro _ ⟨nm,rfl,_,hnm⟩;rfl
       rintro _ ⟨nm,rfl,_,hnm⟩;refine C4 hg gN Z Z Z (foldE hg Y) ?_ ?_;·rintro _ ⟨fm,rfl⟩;rfl
       rintro _ ⟨fm,rfl⟩;refine mB hg gN Z Z O (λh6=>?_)<|λh6=>?_;·refine mn<|cT Z<|sO<|mV Z<|mC Z (hO Z Z (errP hg) _)<|Ai hg gN Z<|x1 Z<|iL ?_;exact⟨_,⟨_,_,_,_,_,_,_,Z,(λ_=>h61'),.inr<|.inr<|.inr<|.inl Z⟩,A4 O Z Z 100 Z Z⟩
       ·refine mn<|cF Z<|kM<|oM<|mV Z<|mI ((j+1:Nat)) Z<|x1 Z ?_;exact⟨j+1,Y,Y,As 1 Z (hZ _) Z Z<|fS<|fzC Z (fvP Z)<|fS<|fI fzN⟩
      ·refine mF Z<|mn<|cF Z<|iN<|sO<|x2 Z Z<|sq<|sO<|mV Z<|mS (v:=J .u8 ((s.getD 0 0).toNat:Nat)) (J8 (n:=0) Z Z) ?_;refine mB hg gN Z Z O (λh7=>?_) (λh7=>?_)
       ·refine mn<|cT Z<|oM<|mV Z<|mS Z<|x1 Z<|sq<|sO<|mV Z ?_;refine C4 hg gN Z Z Z (CH hg (by grind)) ?_ ?_;·rintro _ ⟨tb,rfl,_⟩;rfl
        rintro _ ⟨tb,rfl,_⟩;refine x1 Z ?_;cases tb;·refine cT Z<|sO<|mV Z<|Ai hg gN Z<|x1 Z<|iL ?_;exact⟨_,⟨_,_,_,_,_,_,_,rfl,(λh=>by cases h),.inl rfl⟩,A4 trivial rfl rfl 100 rfl rfl⟩
        ·refine cF Z<|kM<|sO<|m2 Z Z<|Ai hg gN Z<|x1 Z<|iL ?_;exact⟨_,⟨_,_,_,_,_,_,_,Z,(λ_=>h61'),.inr<|.inr<|.inr<|.inr ⟨Z,Z,Z,Z,Z⟩⟩,A4 O Z Z 100 Z Z⟩
       ·refine mn<|cF Z<|kM<|sq<|sO<|mV Z ?_;refine C4 hg gN Z Z Z (CH hg Y) ?_ ?_;·rintro _ ⟨tb,rfl,_⟩;rfl
        rintro _ ⟨tb,rfl,_⟩;refine x1 Z ?_;cases tb;·refine cT Z<|sO<|mV Z<|Ai hg gN Z<|x1 Z<|iL ?_;exact⟨_,⟨_,_,_,_,_,_,_,rfl,(λh=>by cases h),.inl rfl⟩,A4 trivial rfl rfl 100 rfl rfl⟩
        ·refine cF Z<|kM<|sO<|m2 Z Z<|Ai hg gN Z<|x1 Z<|iL ?_;exact⟨_,⟨_,_,_,_,_,_,_,Z,(λ_=>h61'),.inr<|.inr<|.inr<|.inr ⟨Z,Z,Z,Z,Z⟩⟩,A4 O Z Z 100 Z Z⟩
theorem plain1 (hk:Kn W0){m e:Int}:Aw gH W0 140 [E5 1 m e [] false 0] (λv=>∃b,v=I b):=by have hg:=grK hk;refine goE 140 33 ?_;refine sO<|mV (v:=aP 0 0) Z<|x1 Z<|sq<|sO<|m3 Z Z Z<|Hv hg gN (c:=true) Z Z (hO (args:=[E5 1 m e [] false 0,J U 1]) Z Z (bareK1 hk) _) Z<|x1 Z<|cF Z<|kM<|sq<|sO<|x2 Z Z<|bM<|sq<|sO<|mF Z<|x1 Z<|cF Z<|oM<|mF Z<|x1 Z<|cF Z<|sO<|mT Z<|x1 Z<|cT Z<|sO<|m2 Z Z<|mC Z (show cP W0 154 [aG [J U m,J U e]] _ (I<|F6 m e) _ from R5 hg _)<|x1 Z ?_;exact iL ⟨_,⟨_,Z⟩,A4 O Z Z 100 Z Z⟩
theorem plain2 (hk:Kn W0){s:Bz}(hs:N s≤10000):Aw gH W0 140 [E5 2 0 0 s false 0] (λv=>∃b,v=I b∧(b=true→Txt s 0)):=by
 have hg:=grK hk;refine goE 140 33 ?_;refine iO<|iM hg<|Ac hg gN (v:=aP 0 0) Z Z O<|Ac hg gN Z Z O<|Bg<|iO<|iO<|iM hg<|Ac hg gN Z Z O<|Ac hg gN Z Z O<|Ac hg gN Z Z O<|Hv hg gN (c:=true) Z Z (hO (args:=[E5 2 0 0 s false 0,J U 2]) Z Z (bareK2 hk) _) Z<|Ac hg gN Z Z O<|Bg<|ExM.condF hg Z<|ExM.skip<|iO<|iO<|iM hg<|Ac hg gN Z Z O<|Ac hg gN Z Z O<|Bg<|jK<|iO<|iO<|iM hg<|mBk hg gN (c:=false) Z Z V<|Ac hg gN Z Z O<|Bg<|ExM.condF hg Z<|iM hg<|mBk hg gN (c:=false) Z Z V<|Ac hg gN Z Z O<|Bg<|ExM.condF hg Z<|iO<|iM hg<|mBk hg gN (c:=false) Z Z V<|Ac hg gN Z Z O ?_;refine mn<|cF Z<|sO<|mT Z<|x1 Z<|cT Z<|sO<|m2 Z Z ?_;refine C4 hg gN Z Z Z (CH hg Y) ?_ ?_;·rintro _ ⟨tb,rfl,htx⟩;rfl
 rintro _ ⟨tb,rfl,htx⟩;refine x1 Z<|iL ?_;cases tb;·dsimp only[Aj.then,Aj.inBlock];first|exact⟨_,⟨_,rfl,λ_=>htx rfl⟩,A4 trivial rfl rfl 100 rfl rfl⟩|exact⟨_,⟨false,rfl,λh=>by cases h⟩,A4 trivial rfl rfl 100 rfl rfl⟩
 ·dsimp only[Aj.then,Aj.inBlock];first|exact⟨_,⟨_,rfl,λ_=>htx rfl⟩,A4 trivial rfl rfl 100 rfl rfl⟩|exact⟨_,⟨false,rfl,λh=>by cases h⟩,A4 trivial rfl rfl 100 rfl rfl⟩
theorem right1 (hk:Kn W0){m e:Int}:Aw gH W0 91 [E5 1 m e [] false 0] (λv=>∃b,v=I b):=by
 have hg:=grK hk;refine goE 91 124 ?_;refine sO<|mV (v:=aP 0 0) Z<|x1 Z<|sq<|sO<|m2 Z Z<|mT Z<|mn<|cT Z<|sO<|mV Z ?_;refine C4 hg gN Z Z Z (plain1 hk) ?_ ?_;·rintro _ ⟨tb,rfl⟩;rfl
 rintro _ ⟨tb,rfl⟩;refine x1 Z ?_;exact iL ⟨_,⟨_,Z⟩,A4 O Z Z 100 Z Z⟩
theorem right2 (hk:Kn W0){s:Bz}(hs:N s≤10000):Aw gH W0 91 [E5 2 0 0 s false 0] (λv=>∃b,v=I b∧(b=true→Txt s 0)):=by
 have hg:=grK hk;refine goE 91 124 ?_;refine sO<|mV (v:=aP 0 0) Z<|x1 Z<|sq<|sO<|m2 Z Z<|mT Z<|mn<|cT Z<|sO<|mV Z ?_;refine C4 hg gN Z Z Z (plain2 hk hs) ?_ ?_;·rintro _ ⟨tb,rfl,htx⟩;rfl
 rintro _ ⟨tb,rfl,htx⟩;refine x1 Z ?_;exact iL ⟨_,⟨_,Z,htx⟩,A4 O Z Z 100 Z Z⟩
theorem told1 (hk:Kn W0){m e:Int}:Aw gH W0 148 [E5 1 m e [] false 0] (λv=>∃t,v=E5 2 0 0 t false 0∧pl t∧N t≤90):=by
 have hg:=grK hk;refine goE 148 27 ?_;refine sO<|mV (v:=aP 0 0) Z<|mV (v:=aP 1 0) Z<|mn<|sq<|sO<|x2 Z Z<|bM<|sO<|mF Z<|x1 Z<|cF Z<|sO<|mT Z<|x1 Z<|cT Z<|sO<|m2 Z Z ?_;refine C4 hg gN Z Z Z (textE hk) ?_ ?_;·rintro _ ⟨t,er,rfl,ht,htl⟩;rfl
 rintro _ ⟨t,er,rfl,ht,htl⟩;refine mV Z<|x4 Z Z Z Z<|sO<|m2 Z Z<|Ai hg gN Z<|mn ?_;exact iL ⟨_,⟨t,Z,ht,htl⟩,A4 O Z Z 100 Z Z⟩
theorem QT (hk:Kn W0){m e:Int}:Aw gH W0 94 [E5 1 m e [] false 0] (λv=>∃t,v=S t∧pl t∧N t≤90):=by
 have hg:=grK hk;refine goE 94 12 ?_;refine sO<|mV (v:=aP 0 0) Z<|x1 Z<|sq<|sO<|m2 Z Z<|mF Z<|mn<|cF Z<|kM<|sO<|mV Z ?_;refine C4 hg gN Z Z Z (told1 hk) ?_ ?_;·rintro _ ⟨t,rfl,ht,htl⟩;rfl
 rintro _ ⟨t,rfl,ht,htl⟩;refine x2 Z Z ?_;exact iL ⟨_,⟨t,Z,ht,htl⟩,A4 O Z Z 100 Z Z⟩
theorem text1 (hk:Kn W0){m e:Int}:Aw gH W0 65 [E5 1 m e [] false 0] (λv=>∃(t:Bz) (er:Int),v=aU [S t,J U er]∧lit t):=by
 have hg:=grK hk;refine goE 65 88 ?_;refine iO<|iM hg<|Ac hg gN (v:=aP 0 0) Z Z O<|Ac hg gN Z Z O<|Ac hg gN Z Z O<|Bg<|iO<|iO<|iM hg<|Ac hg gN Z Z O ?_;refine C4 hg gN Z Z Z (right1 hk) ?_ ?_;·rintro _ ⟨tb,rfl⟩;rfl
 rintro _ ⟨tb,rfl⟩;refine x1 Z ?_;cases tb;·refine cT Z<|sO<|x2 Z Z<|iL ?_;exact⟨_,⟨[],30,Z,I9 Kq V⟩,A4 O Z Z 100 Z Z⟩
 ·refine cF Z<|kM<|sq<|sO<|m2 Z Z<|mF Z<|mn<|cF Z<|kM<|sq<|sO<|m2 Z Z<|mF Z<|mn<|cF Z<|kM<|sq<|sO<|m2 Z Z<|mT Z<|mn<|cT Z<|sO<|mV Z ?_;refine C4 hg gN Z Z Z (QT hk) ?_ ?_;·rintro _ ⟨t,rfl,ht,htl⟩;rfl
  rintro _ ⟨t,rfl,ht,htl⟩;refine x2 Z Z ?_;exact iL ⟨_,⟨t,0,Z,lit_pl ht htl⟩,A4 O Z Z 100 Z Z⟩
theorem text2 (hk:Kn W0){s:Bz}(hs:N s≤40):Aw gH W0 65 [E5 2 0 0 s false 0] (λv=>∃(t:Bz) (er:Int),v=aU [S t,J U er]∧lit t):=by
 have hg:=grK hk;refine goE 65 88 ?_;refine iO<|iM hg<|Ac hg gN (v:=aP 0 0) Z Z O<|Ac hg gN Z Z O<|Ac hg gN Z Z O<|Bg<|iO<|iO<|iM hg<|Ac hg gN Z Z O ?_;refine C4 hg gN Z Z Z (right2 hk Y) ?_ ?_;·rintro _ ⟨tb,rfl,htx⟩;rfl
 rintro _ ⟨tb,rfl,htx⟩;cases tb;·refine x1 Z<|cT Z<|sO<|x2 Z Z<|iL ?_;first|exact⟨_,⟨[],30,rfl,I9 Kq V⟩,A4 trivial rfl rfl 100 rfl rfl⟩|exact⟨_,⟨s,0,rfl,KZ (herr bY129) (htx rfl) hs⟩,A4 trivial rfl rfl 100 rfl rfl⟩|exact⟨_,⟨39::s,0,rfl,KP (htx rfl) hs⟩,A4 trivial rfl rfl 100 rfl rfl⟩
 ·refine x1 Z<|cF Z<|kM<|sq<|sO<|m2 Z Z<|mF Z<|mn<|cF Z<|kM<|sq<|sO<|m2 Z Z<|mT Z<|mn<|cT Z<|sO<|m2 Z Z ?_;refine C4 hg gN Z Z Z (readV hg (s:=s) Y) ?_ ?_;·rintro _ ⟨k,m,e,er,err,t,b,rfl,herr,hsh⟩;rfl
  rintro _ ⟨k,m,e,er,err,t,b,rfl,herr,hsh⟩;refine m3 Z Z Z<|mV (v:=aP 1 0) Z<|Ai hg gN Z<|x1 Z<|sq<|sO<|mV Z ?_;refine mB hg gN Z Z O (λh1=>?_)<|λh1=>?_
  ·refine m3 Z Z Z ?_;refine C4 hg (gS Z) Z Z Z (sameE hk hsh) ?_ ?_;·rintro _ ⟨c,rfl⟩;rfl
   rintro _ ⟨c,rfl⟩;refine x1 Z ?_;cases c;·refine cF Z<|kM<|sO<|m2 Z Z<|mS Z<|x2 Z Z<|iL ?_;first|exact⟨_,⟨[],30,rfl,I9 Kq V⟩,A4 trivial rfl rfl 100 rfl rfl⟩|exact⟨_,⟨s,0,rfl,KZ (herr (by grind)) (htx rfl) hs⟩,A4 trivial rfl rfl 100 rfl rfl⟩|exact⟨_,⟨39::s,0,rfl,KP (htx rfl) hs⟩,A4 trivial rfl rfl 100 rfl rfl⟩
   ·refine cT Z<|sO<|x4 Z Z Z Z<|iL ?_;first|exact⟨_,⟨[],30,rfl,I9 Kq V⟩,A4 trivial rfl rfl 100 rfl rfl⟩|exact⟨_,⟨s,0,rfl,KZ (herr (by grind)) (htx rfl) hs⟩,A4 trivial rfl rfl 100 rfl rfl⟩|exact⟨_,⟨39::s,0,rfl,KP (htx rfl) hs⟩,A4 trivial rfl rfl 100 rfl rfl⟩
  ·refine mV Z<|mG<|mG<|mG<|x1 Z<|cF Z<|kM<|sO<|m2 Z Z<|mS Z<|x2 Z Z<|iL ?_;first|exact⟨_,⟨[],30,rfl,I9 Kq V⟩,A4 trivial rfl rfl 100 rfl rfl⟩|exact⟨_,⟨s,0,rfl,KZ (herr bY129) (htx rfl) hs⟩,A4 trivial rfl rfl 100 rfl rfl⟩|exact⟨_,⟨39::s,0,rfl,KP (htx rfl) hs⟩,A4 trivial rfl rfl 100 rfl rfl⟩
def valQ (v:AVal):Prop:=v=E5 0 0 0 [] false 0∨(∃m e,v=E5 1 m e [] false 0)∨(∃s:Bz,v=E5 2 0 0 s false 0∧N s≤40)∨(∃b,v=E5 3 0 0 [] b 0)∨(∃n:Nat,v=E5 4 0 0 [] false (n:Nat)∧1≤n∧n≤9)
theorem GE {v:AVal}(h:valQ v):blw 0 v=true:=by rcases h with rfl|⟨m,e,rfl⟩|⟨s,rfl,_⟩|⟨b,rfl⟩|⟨n,rfl,_⟩<;>rfl
theorem valE (hk:Kn W0){K M E:Int}{s:Bz}{b:Bool}(hK:i64 K)(hM:i64 M)(hE:i64 E)(hs:N s≤150000000000000):Aw gH W0 66 [EN K M E s b] valQ:=by
 have hg:=grK hk;have hk5:=C6 (c:=K) (n:=5) V;have hk9:=C6 (c:=M) (n:=9) V;have k1:=Rm hg (c:=K) (n:=5) hK.1 hK.2 V;have hc:Bt K 5=1∨Bt K 5=0∨Bt K 5=2∨Bt K 5=3∨Bt K 5=4:=Y;rcases hc with h|h|h|h|h;·obtain⟨m,e,c⟩:=ValNum hk (s:=s) (b:=b) hK hM hE h;exact(jD c).mono λv hv=>.inr<|.inl ⟨m,e,hv⟩
 ·rw[h]at k1;refine goE 66 60 ?_;refine sO<|mV (v:=aP 0 0) Z<|mV (v:=aP 1 0) Z<|mn<|sq<|sO<|m2 Z Z<|mC Z (hO Z Z k1 _)<|mn<|bM<|sO<|mF Z<|x1 Z<|cF Z<|sO<|mF Z<|x1 Z<|cF Z<|sO<|mF Z<|x1 Z<|cF Z<|sO<|mF Z<|x1 Z<|cF Z<|kM<|sO<|mV Z<|Ai hg gN Z<|mn ?_;exact iL ⟨_,.inl Z,A4 O Z Z 100 Z Z⟩
 ·rw[h]at k1;refine goE 66 60 ?_;refine sO<|mV (v:=aP 0 0) Z<|mV (v:=aP 1 0) Z<|mn<|sq<|sO<|m2 Z Z<|mC Z (hO Z Z k1 _)<|mn<|bM<|sO<|mF Z<|x1 Z<|cF Z<|sO<|mT Z<|x1 Z<|cT Z<|sO<|m2 Z Z ?_;refine C4 hg gN Z Z Z (textOfE hg hs) ?_ ?_;·rintro _ ⟨t,rfl,ht⟩;rfl
  rintro _ ⟨t,rfl,ht⟩;refine mV Z<|Ai hg gN Z<|mn ?_;exact iL ⟨_,.inr<|.inr<|.inl ⟨t,Z,ht⟩,A4 O Z Z 100 Z Z⟩
 ·rw[h]at k1;refine goE 66 60 ?_;refine sO<|mV (v:=aP 0 0) Z<|mV (v:=aP 1 0) Z<|mn<|sq<|sO<|m2 Z Z<|mC Z (hO Z Z k1 _)<|mn<|bM<|sO<|mF Z<|x1 Z<|cF Z<|sO<|mF Z<|x1 Z<|cF Z<|sO<|mT Z<|x1 Z<|cT Z<|sO<|m3 Z Z Z<|Ai hg gN Z<|mn ?_;exact iL ⟨_,.inr<|.inr<|.inr<|.inl ⟨b,Z⟩,A4 O Z Z 100 Z Z⟩
 ·rw[h]at k1;refine goE 66 60 ?_;refine sO<|mV (v:=aP 0 0) Z<|mV (v:=aP 1 0) Z<|mn<|sq<|sO<|m2 Z Z<|mC Z (hO Z Z k1 _)<|mn<|bM<|sO<|mF Z<|x1 Z<|cF Z<|sO<|mF Z<|x1 Z<|cF Z<|sO<|mF Z<|x1 Z<|cF Z<|sO<|mT Z<|x1 Z<|cT Z<|sO<|m3 Z Z Z<|mC Z (pickC53 hg (c:=M) (n:=9) hM.1 hM.2 V _)<|mI ((1+Bt M 9:Nat)) Z<|mV Z<|Ai hg gN Z<|mn ?_;exact iL ⟨_,.inr<|.inr<|.inr<|.inr ⟨1+Bt M 9,Z,Y,Y⟩,A4 O Z Z 100 Z Z⟩
theorem text0 (hk:Kn W0):cP W0 65 [E5 0 0 0 [] false 0] [] (aU [S [],J U 0]) []:=H6 hk (d:=60) (show run 60 65 [E5 0 0 0 [] false 0] []=some (aU [S [],J U 0],[])by kernel_rfl) Ar Ar []
theorem text3t (hk:Kn W0):cP W0 65 [E5 3 0 0 [] true 0] [] (aU [S [84,82,85,69],J U 0]) []:=H6 hk (d:=60) (show run 60 65 [E5 3 0 0 [] true 0] []=some (aU [S [84,82,85,69],J U 0],[])by kernel_rfl) Ar Ar []
theorem text3f (hk:Kn W0):cP W0 65 [E5 3 0 0 [] false 0] [] (N118) []:=H6 hk (d:=60) (show run 60 65 [E5 3 0 0 [] false 0] []=some (N118,[])by kernel_rfl) Ar Ar []
theorem text41 (hk:Kn W0):cP W0 65 [E5 4 0 0 [] false 1] [] (N119) []:=H6 hk (d:=60) (show run 60 65 [E5 4 0 0 [] false 1] []=some (N119,[])by kernel_rfl) Ar Ar []
theorem text42 (hk:Kn W0):cP W0 65 [E5 4 0 0 [] false 2] [] (N120) []:=H6 hk (d:=60) (show run 60 65 [E5 4 0 0 [] false 2] []=some (N120,[])by kernel_rfl) Ar Ar []
theorem text43 (hk:Kn W0):cP W0 65 [E5 4 0 0 [] false 3] [] (N121) []:=H6 hk (d:=60) (show run 60 65 [E5 4 0 0 [] false 3] []=some (N121,[])by kernel_rfl) Ar Ar []
theorem text44 (hk:Kn W0):cP W0 65 [E5 4 0 0 [] false 4] [] (N122) []:=H6 hk (d:=60) (show run 60 65 [E5 4 0 0 [] false 4] []=some (N122,[])by kernel_rfl) Ar Ar []
theorem text45 (hk:Kn W0):cP W0 65 [E5 4 0 0 [] false 5] [] (N123) []:=H6 hk (d:=60) (show run 60 65 [E5 4 0 0 [] false 5] []=some (N123,[])by kernel_rfl) Ar Ar []
theorem text46 (hk:Kn W0):cP W0 65 [E5 4 0 0 [] false 6] [] (N124) []:=H6 hk (d:=60) (show run 60 65 [E5 4 0 0 [] false 6] []=some (N124,[])by kernel_rfl) Ar Ar []
theorem text47 (hk:Kn W0):cP W0 65 [E5 4 0 0 [] false 7] [] (aU [S [35,78,47,65],J U 0]) []:=H6 hk (d:=60) (show run 60 65 [E5 4 0 0 [] false 7] []=some (aU [S [35,78,47,65],J U 0],[])by kernel_rfl) Ar Ar []
theorem text48 (hk:Kn W0):cP W0 65 [E5 4 0 0 [] false 8] [] (N125) []:=H6 hk (d:=60) (show run 60 65 [E5 4 0 0 [] false 8] []=some (N125,[])by kernel_rfl) Ar Ar []
theorem text49 (hk:Kn W0):cP W0 65 [E5 4 0 0 [] false 9] [] (N126) []:=H6 hk (d:=60) (show run 60 65 [E5 4 0 0 [] false 9] []=some (N126,[])by kernel_rfl) Ar Ar []
theorem textV (hk:Kn W0){v:AVal}(h:valQ v):Aw gH W0 65 [v] (λv=>∃(t:Bz) (er:Int),v=aU [S t,J U er]∧lit t):=by
 rcases h with rfl|⟨m,e,rfl⟩|⟨s,rfl,hs⟩|⟨b,rfl⟩|⟨n,rfl,h1,h2⟩;·exact(jD<|text0 hk).mono λv hv=>⟨_,_,hv,I9 Kq V⟩
 ·exact text1 hk
 ·exact text2 hk Y
 ·cases b;·exact(jD<|text3f hk).mono λv hv=>⟨_,_,hv,I9 (C2 V) V⟩
  ·exact(jD<|text3t hk).mono λv hv=>⟨_,_,hv,I9 (C2 V) V⟩
 ·have:n=1∨n=2∨n=3∨n=4∨n=5∨n=6∨n=7∨n=8∨n=9:=by omega
  rcases this with rfl|rfl|rfl|rfl|rfl|rfl|rfl|rfl|rfl;·exact(jD<|text41 hk).mono λv hv=>⟨_,_,hv,I9 (C2 V) V⟩
  ·exact(jD<|text42 hk).mono λv hv=>⟨_,_,hv,I9 (C2 V) V⟩
  ·exact(jD<|text43 hk).mono λv hv=>⟨_,_,hv,I9 (C2 V) V⟩
  ·exact(jD<|text44 hk).mono λv hv=>⟨_,_,hv,I9 (C2 V) V⟩
  ·exact(jD<|text45 hk).mono λv hv=>⟨_,_,hv,I9 (C2 V) V⟩
  ·exact(jD<|text46 hk).mono λv hv=>⟨_,_,hv,I9 (C2 V) V⟩
  ·exact(jD<|text47 hk).mono λv hv=>⟨_,_,hv,I9 (C2 V) V⟩
  ·exact(jD<|text48 hk).mono λv hv=>⟨_,_,hv,I9 (C2 V) V⟩
  ·exact(jD<|text49 hk).mono λv hv=>⟨_,_,hv,I9 (C2 V) V⟩
theorem QF (hk:Kn W0){K M E:Int}{s:Bz}{b:Bool}(hK:i64 K)(hM:i64 M)(hE:i64 E)(hs:N s≤150000000000000):Aw gH W0 34 [EN K M E s b] (λv=>∃t:Bz,v=S t∧lit t∧t≠[]):=by
 have hg:=grK hk;refine goE 34 14 ?_;refine sO<|mV (v:=aP 0 0) Z<|x1 Z<|sO<|mV Z ?_;refine C4 hg gN Z Z Z (valE hk hK hM hE hs) ?_ ?_;·grind[GE]
 rintro _ hv;refine C4 hg gN Z Z (by show cond (blw 0 _) true false=true;rw[GE hv];rfl) (textV hk hv) ?_ ?_;·rintro _ ⟨t,er,rfl,ht⟩;rfl
 rintro _ ⟨t,er,rfl,ht⟩;refine mV Z<|x4 Z Z Z Z<|sq<|sO<|mV Z ?_;refine mB hg gN Z Z O (λh1=>?_)<|λh1=>?_;·refine mn<|cT Z<|sO<|x1 Z ?_;exact iL ⟨_,⟨_,Z,I9 (C2 V) V,V⟩,A4 O Z Z 100 Z Z⟩
 ·refine mn<|cF Z<|kM<|sO<|x2 Z Z ?_;exact iL ⟨_,⟨t,Z,ht,λe=>by grind⟩,A4 trivial rfl rfl 100 rfl rfl⟩
end Go.Abs
namespace Go.Abs
open Go.Proofs Go.RowKit
set_option maxRecDepth 10000000
variable {W0 : World} {G : List (Nat × AVal)}
def cB (cl:Nat):UInt8:=iI<|65+cl
def dB (rw:Nat):UInt8:=iI<|49+rw
theorem cB_nat {cl:Nat}(h:cl<5):(cB cl).toNat=65+cl:=jJ (by grind)
theorem dB_nat {rw:Nat}(h:rw<8):(dB rw).toNat=49+rw:=jJ (by grind)
theorem dg125_0 (hk:Kn W0):cP W0 104 [J U 1] [] (S [49]) []:=cK hk
theorem it215_0 (hk:Kn W0):cP W0 185 [J U 1] [] (S [49]) []:=cK hk
theorem at237_0 (hk:Kn W0):cP W0 184 [S [49]] [] (aU [J U 1,.nilIf]) []:=cK hk
theorem dg125_1 (hk:Kn W0):cP W0 104 [J U 2] [] (S [50]) []:=cK hk
theorem it215_1 (hk:Kn W0):cP W0 185 [J U 2] [] (S [50]) []:=cK hk
theorem at237_1 (hk:Kn W0):cP W0 184 [S [50]] [] (aU [J U 2,.nilIf]) []:=cK hk
theorem dg125_2 (hk:Kn W0):cP W0 104 [J U 3] [] (S [51]) []:=cK hk
theorem it215_2 (hk:Kn W0):cP W0 185 [J U 3] [] (S [51]) []:=cK hk
theorem at237_2 (hk:Kn W0):cP W0 184 [S [51]] [] (aU [J U 3,.nilIf]) []:=cK hk
theorem dg125_3 (hk:Kn W0):cP W0 104 [J U 4] [] (S [52]) []:=cK hk
theorem it215_3 (hk:Kn W0):cP W0 185 [J U 4] [] (S [52]) []:=cK hk
theorem at237_3 (hk:Kn W0):cP W0 184 [S [52]] [] (aU [J U 4,.nilIf]) []:=cK hk
theorem dg125_4 (hk:Kn W0):cP W0 104 [J U 5] [] (S [53]) []:=cK hk
theorem it215_4 (hk:Kn W0):cP W0 185 [J U 5] [] (S [53]) []:=cK hk
theorem at237_4 (hk:Kn W0):cP W0 184 [S [53]] [] (aU [J U 5,.nilIf]) []:=cK hk
theorem dg125_5 (hk:Kn W0):cP W0 104 [J U 6] [] (S [54]) []:=cK hk
theorem it215_5 (hk:Kn W0):cP W0 185 [J U 6] [] (S [54]) []:=cK hk
theorem at237_5 (hk:Kn W0):cP W0 184 [S [54]] [] (aU [J U 6,.nilIf]) []:=cK hk
theorem dg125_6 (hk:Kn W0):cP W0 104 [J U 7] [] (S [55]) []:=cK hk
theorem it215_6 (hk:Kn W0):cP W0 185 [J U 7] [] (S [55]) []:=cK hk
theorem at237_6 (hk:Kn W0):cP W0 184 [S [55]] [] (aU [J U 7,.nilIf]) []:=cK hk
theorem dg125_7 (hk:Kn W0):cP W0 104 [J U 8] [] (S [56]) []:=cK hk
theorem it215_7 (hk:Kn W0):cP W0 185 [J U 8] [] (S [56]) []:=cK hk
theorem at237_7 (hk:Kn W0):cP W0 184 [S [56]] [] (aU [J U 8,.nilIf]) []:=cK hk
theorem cl124_0 (hk:Kn W0):cP W0 103 [J U 0] [] (aU [S [65],J U 0]) []:=cK hk
theorem rc233_0 (hk:Kn W0):cP W0 180 [S [65]] [] (aU z5L) []:=cK hk
theorem cl124_1 (hk:Kn W0):cP W0 103 [J U 1] [] (aU [S [66],J U 0]) []:=cK hk
theorem rc233_1 (hk:Kn W0):cP W0 180 [S [66]] [] (aU QC) []:=cK hk
theorem cl124_2 (hk:Kn W0):cP W0 103 [J U 2] [] (aU [S [67],J U 0]) []:=cK hk
theorem rc233_2 (hk:Kn W0):cP W0 180 [S [67]] [] (aU UU) []:=cK hk
theorem cl124_3 (hk:Kn W0):cP W0 103 [J U 3] [] (aU [S [68],J U 0]) []:=cK hk
theorem rc233_3 (hk:Kn W0):cP W0 180 [S [68]] [] (aU UN) []:=cK hk
theorem cl124_4 (hk:Kn W0):cP W0 103 [J U 4] [] (aU [S [69],J U 0]) []:=cK hk
theorem rc233_4 (hk:Kn W0):cP W0 180 [S [69]] [] (aU PK) []:=cK hk
theorem is191_1 (hk:Kn W0):cP W0 156 [S [83]] [] (I true) []:=cK hk
theorem BQ (hk:Kn W0):cP W0 101 [S [83]] [] (I true) []:=cK hk
theorem W5 (hk:Kn W0):cP W0 68 [S [83]] [] (I true) []:=cK hk
theorem CF (hk:Kn W0):cP W0 238 [S [83]] [] (I true) []:=cK hk
theorem is191_2 (hk:Kn W0):cP W0 156 [S [84,119,111,32,120]] [] (I true) []:=cK hk
theorem AZ (hk:Kn W0):cP W0 101 [S [84,119,111,32,120]] [] (I false) []:=cK hk
theorem Wh (hk:Kn W0):cP W0 68 [S [84,119,111,32,120]] [] (I true) []:=cK hk
theorem is191_3 (hk:Kn W0):cP W0 156 [S [116,104,105,114,100]] [] (I true) []:=cK hk
theorem CM (hk:Kn W0):cP W0 101 [S [116,104,105,114,100]] [] (I true) []:=cK hk
theorem W8 (hk:Kn W0):cP W0 68 [S [116,104,105,114,100]] [] (I true) []:=cK hk
theorem DC (hk:Kn W0):cP W0 238 [S [116,104,105,114,100]] [] (I true) []:=cK hk
theorem is191_0 (hk:Kn W0):cP W0 156 [S []] [] (I false) []:=cK hk
theorem UO (hk:Kn W0):cP W0 102 [S [84,119,111,32,120]] [] (S [39,84,119,111,32,120,39]) []:=cK hk
theorem AN (hk:Kn W0):cP W0 238 [S [39,84,119,111,32,120,39]] [] (I false) []:=cK hk
theorem O0 (hk:Kn W0){rw:Nat}(h:rw<8):cP W0 104 [J U<|U.wrap<|(rw:Nat)+1] [] (S [dB rw]) []:=by
 have:rw=0∨rw=1∨rw=2∨rw=3∨rw=4∨rw=5∨rw=6∨rw=7:=Y;rcases this with rfl|rfl|rfl|rfl|rfl|rfl|rfl|rfl;·exact dg125_0 hk
 ·exact dg125_1 hk
 ·exact dg125_2 hk
 ·exact dg125_3 hk
 ·exact dg125_4 hk
 ·exact dg125_5 hk
 ·exact dg125_6 hk
 ·exact dg125_7 hk
theorem O2 (hk:Kn W0){rw:Nat}(h:rw<8):cP W0 185 [J U<|(rw+1:Nat)] [] (S [dB rw]) []:=by
 have:rw=0∨rw=1∨rw=2∨rw=3∨rw=4∨rw=5∨rw=6∨rw=7:=Y;rcases this with rfl|rfl|rfl|rfl|rfl|rfl|rfl|rfl;·exact it215_0 hk
 ·exact it215_1 hk
 ·exact it215_2 hk
 ·exact it215_3 hk
 ·exact it215_4 hk
 ·exact it215_5 hk
 ·exact it215_6 hk
 ·exact it215_7 hk
theorem O7 (hk:Kn W0){rw:Nat}(h:rw<8):cP W0 184 [S [dB rw]] [] (aU [J U<|(rw+1:Nat),.nilIf]) []:=by
 have:rw=0∨rw=1∨rw=2∨rw=3∨rw=4∨rw=5∨rw=6∨rw=7:=Y;rcases this with rfl|rfl|rfl|rfl|rfl|rfl|rfl|rfl;·exact at237_0 hk
 ·exact at237_1 hk
 ·exact at237_2 hk
 ·exact at237_3 hk
 ·exact at237_4 hk
 ·exact at237_5 hk
 ·exact at237_6 hk
 ·exact at237_7 hk
theorem O8 (hk:Kn W0){cl:Nat}(h:cl<5):cP W0 103 [J U (cl:Nat)] [] (aU [S [cB cl],J U 0]) []:=by
 have:cl=0∨cl=1∨cl=2∨cl=3∨cl=4:=Y;rcases this with rfl|rfl|rfl|rfl|rfl;·exact cl124_0 hk
 ·exact cl124_1 hk
 ·exact cl124_2 hk
 ·exact cl124_3 hk
 ·exact cl124_4 hk
theorem Ny (hk:Kn W0){cl:Nat}(h:cl<5):cP W0 180 [S [cB cl]] [] (aU [J U (cl:Nat),J U 0]) []:=by
 have:cl=0∨cl=1∨cl=2∨cl=3∨cl=4:=Y;rcases this with rfl|rfl|rfl|rfl|rfl;·exact rc233_0 hk
 ·exact rc233_1 hk
 ·exact rc233_2 hk
 ·exact rc233_3 hk
 ·exact rc233_4 hk
def KF58 :AFn:=⟨(sQ [yV 1<|.box 95 0,yV 2<|.move<|.val<|I false]<|.seq (sQ [yV 3<|.fieldAddr 5 1,yV 4<|.load 1 false 3]<|.cond 4 (sQ [yV 5<|.load 6 true 1,yV 6<|.build z6L [(5,1,(.val<|I true))],yV 7<|.eqs false (.cons 0 1 false .s<|.cons 1 1 false .i<|.cons 2 1 false .i<|.cons 3 1 false .b<|.cons 4 1 false .b<|.cons 5 1 false .b .nil) 5 6,yM 2 7] .ret) .skip)<|sQ [yV 8<|.fieldAddr 0 1,yV 9<|.load 1 false 8,yV 10<|.bin .eql none 9<|.val<|S [],yM 11 10,yF 12 11<|.fieldAddr 0 1,yF 13 11<|.load 1 false 12,yF 14 11<|kF 68 [13],yV 15<|.pick 11 (.val<|I true) 14,yM 16 15,yT 17 16<|.fieldAddr 1 1,yT 18 16<|.load 1 false 17,yT 19 16<|.bin .geq none 18<|vI 0,yV 20<|.pick 16 19<|.val<|I false,yM 21 20,yT 22 21<|.fieldAddr 1 1,yT 23 21<|.load 1 false 22,yT 24 21<|.bin .lss none 23<|vI 200,yV 25<|.pick 21 24<|.val<|I false,yM 26 25,yT 27 26<|.fieldAddr 2 1,yT 28 26<|.load 1 false 27,yT 29 26<|.bin .geq none 28<|vI 0,yV 30<|.pick 26 29<|.val<|I false,yM 31 30,yT 32 31<|.fieldAddr 2 1,yT 33 31<|.load 1 false 32,yT 34 31<|.bin .lss none 33<|vI 52,yV 35<|.pick 31 34<|.val<|I false,yM 2 35] .ret),[2],36⟩
theorem KG58 :Gs gH 38=some KF58:=Ar
theorem Pz (hk:Kn W0){r c:Int}{fr fc:Bool}(hr:0≤r∧r<8)(hc:0≤c∧c<5):cP W0 38 [aG [S [],J U r,J U c,I fr,I fc,I false]] [] (I true) []:=by have hg:=grK hk;refine jP KG58 B4 Z ?_;refine sO<|mV (v:=aP 0 0) Z<|x1 Z<|sq<|sO<|x2 Z Z<|cF Z<|kM<|sO<|m2 Z Z<|mBk hg gN (c:=true) Z Z Z<|mV Z<|mG<|mG<|mG<|m4 Z Z Z Z<|mT Z<|m4 Z Z Z Z<|mT Z<|m4 Z Z Z Z<|mT Z<|m4 Z Z Z Z<|mT Z<|x2 Z Z ?_;exact iL<|pL
theorem Rf (hk:Kn W0){r c:Int}{fr fc:Bool}(hr:0≤r∧r<8)(hc:0≤c∧c<5):cP W0 100 [aG [S [],J U r,J U c,I fr,I fc,I false]] [] (I true) []:=by have hg:=grK hk;refine goM 100 58 ?_;refine sO<|mV (v:=aP 0 0) Z<|x1 Z<|sq<|sO<|x2 Z Z<|cF Z<|kM<|sO<|m2 Z Z<|Hv hg gN (c:=false) Z Z (hO Z Z (is191_0 hk) _) Z<|x1 Z<|sO<|m4 Z Z Z Z<|mBk hg (gS Z) (c:=true) Z Z Z<|m4 Z Z Z Z<|mT Z<|m4 Z Z Z Z<|mT Z<|m4 Z Z Z Z<|mT Z<|m4 Z Z Z Z<|mT Z<|x2 Z Z ?_;exact iL<|pL
theorem Q2 (hk:Kn W0){r c:Int}{fr fc:Bool}(hr:0≤r∧r<8)(hc:0≤c∧c<5):cP W0 38 [aG [S [83],J U r,J U c,I fr,I fc,I false]] [] (I true) []:=by have hg:=grK hk;refine jP KG58 B4 Z ?_;refine sO<|mV (v:=aP 0 0) Z<|x1 Z<|sq<|sO<|x2 Z Z<|cF Z<|kM<|sO<|m2 Z Z<|mBk hg gN (c:=false) Z Z Z<|m3 Z Z Z<|Hv hg (gS Z) (c:=true) Z Z (hO Z Z (W5 hk) _) Z<|m4 Z Z Z Z<|mT Z<|m4 Z Z Z Z<|mT Z<|m4 Z Z Z Z<|mT Z<|m4 Z Z Z Z<|mT Z<|x2 Z Z ?_;exact iL<|pL
theorem Rh (hk:Kn W0){r c:Int}{fr fc:Bool}(hr:0≤r∧r<8)(hc:0≤c∧c<5):cP W0 100 [aG [S [83],J U r,J U c,I fr,I fc,I false]] [] (I true) []:=by have hg:=grK hk;refine goM 100 58 ?_;refine sO<|mV (v:=aP 0 0) Z<|x1 Z<|sq<|sO<|x2 Z Z<|cF Z<|kM<|sO<|m2 Z Z<|Hv hg gN (c:=true) Z Z (hO Z Z (is191_1 hk) _) Z<|x1 Z<|sO<|m2 Z Z<|mG<|mG<|mG<|m4 Z Z Z Z<|mT Z<|m4 Z Z Z Z<|mT Z<|m4 Z Z Z Z<|mT Z<|m4 Z Z Z Z<|mT Z<|x2 Z Z ?_;exact iL<|pL
theorem Q3 (hk:Kn W0){r c:Int}{fr fc:Bool}(hr:0≤r∧r<8)(hc:0≤c∧c<5):cP W0 38 [aG [S [84,119,111,32,120],J U r,J U c,I fr,I fc,I false]] [] (I true) []:=by have hg:=grK hk;refine jP KG58 B4 Z ?_;refine sO<|mV (v:=aP 0 0) Z<|x1 Z<|sq<|sO<|x2 Z Z<|cF Z<|kM<|sO<|m2 Z Z<|mBk hg gN (c:=false) Z Z Z<|m3 Z Z Z<|Hv hg (gS Z) (c:=true) Z Z (hO Z Z (Wh hk) _) Z<|m4 Z Z Z Z<|mT Z<|m4 Z Z Z Z<|mT Z<|m4 Z Z Z Z<|mT Z<|m4 Z Z Z Z<|mT Z<|x2 Z Z ?_;exact iL<|pL
theorem Qx (hk:Kn W0){r c:Int}{fr fc:Bool}(hr:0≤r∧r<8)(hc:0≤c∧c<5):cP W0 100 [aG [S [84,119,111,32,120],J U r,J U c,I fr,I fc,I false]] [] (I true) []:=by have hg:=grK hk;refine goM 100 58 ?_;refine sO<|mV (v:=aP 0 0) Z<|x1 Z<|sq<|sO<|x2 Z Z<|cF Z<|kM<|sO<|m2 Z Z<|Hv hg gN (c:=true) Z Z (hO Z Z (is191_2 hk) _) Z<|x1 Z<|sO<|m2 Z Z<|mG<|mG<|mG<|m4 Z Z Z Z<|mT Z<|m4 Z Z Z Z<|mT Z<|m4 Z Z Z Z<|mT Z<|m4 Z Z Z Z<|mT Z<|x2 Z Z ?_;exact iL<|pL
theorem Q9 (hk:Kn W0){r c:Int}{fr fc:Bool}(hr:0≤r∧r<8)(hc:0≤c∧c<5):cP W0 38 [aG [S [116,104,105,114,100],J U r,J U c,I fr,I fc,I false]] [] (I true) []:=by have hg:=grK hk;refine jP KG58 B4 Z ?_;refine sO<|mV (v:=aP 0 0) Z<|x1 Z<|sq<|sO<|x2 Z Z<|cF Z<|kM<|sO<|m2 Z Z<|mBk hg gN (c:=false) Z Z Z<|m3 Z Z Z<|Hv hg (gS Z) (c:=true) Z Z (hO Z Z (W8 hk) _) Z<|m4 Z Z Z Z<|mT Z<|m4 Z Z Z Z<|mT Z<|m4 Z Z Z Z<|mT Z<|m4 Z Z Z Z<|mT Z<|x2 Z Z ?_;exact iL<|pL
theorem Re (hk:Kn W0){r c:Int}{fr fc:Bool}(hr:0≤r∧r<8)(hc:0≤c∧c<5):cP W0 100 [aG [S [116,104,105,114,100],J U r,J U c,I fr,I fc,I false]] [] (I true) []:=by have hg:=grK hk;refine goM 100 58 ?_;refine sO<|mV (v:=aP 0 0) Z<|x1 Z<|sq<|sO<|x2 Z Z<|cF Z<|kM<|sO<|m2 Z Z<|Hv hg gN (c:=true) Z Z (hO Z Z (is191_3 hk) _) Z<|x1 Z<|sO<|m2 Z Z<|mG<|mG<|mG<|m4 Z Z Z Z<|mT Z<|m4 Z Z Z Z<|mT Z<|m4 Z Z Z Z<|mT Z<|m4 Z Z Z Z<|mT Z<|x2 Z Z ?_;exact iL<|pL
theorem Gh {s t:Bz}{b:Bool}(h1:iC s [36]=t)(h2:gJ s [36]=b):cP W0 109 [S s,S [36]] [] (aU [S t,I b]) []:=by subst h1;subst h2;exact Ii
theorem Nz {s:Bz}{i:Int}(h:To s 33=i)(hs:N s<4611686018427387904):cP W0 237 [S s,J .u8 33] [] (J U i) []:=by subst h;exact lLast 33 hs
theorem wrS {x:Int}(h:0≤x)(h2:x<100):U.wrap (x-1)=x-1:=w64 Y Y
theorem UG (hk:Kn W0){cl rw:Nat}(hc:cl<5)(hr:rw<8):cP W0 67 [aG [S [],J U (rw:Nat),J U (cl:Nat),I false,I false,I false]] [] (aU [S [cB cl,dB rw],J U 0]) []:=rt00 hk Jk Jj (O0 hk hr) (O8 hk hc)<|Rf hk Y Y
theorem rd00' (hk:Kn W0){cl rw:Nat}(hc:cl<5)(hr:rw<8):cP W0 126 [S [cB cl,dB rw]] [] (aU [aG [S [],J U (rw:Nat),J U (cl:Nat),I false,I false,I false],J U 0]) []:=by have h:=rr00 hk (a20:=(cl:Nat)) (a30:=(rw+1:Nat)) (c:=cB cl) (d:=dB rw) Jk Jj bY83 (O2 hk hr) (O7 hk hr) (Gh Em Em) (Ny hk hc) (Gh Em Em)<|Nz Em B4;rw[wrS Y Y,show((rw+1:Nat):Int)-1=(rw:Nat)by omega]at h;exact h
theorem NI (hk:Kn W0){cl rw:Nat}(hc:cl<5)(hr:rw<8):Be W0 [cB cl,dB rw] [] (rw:Nat) (cl:Nat) false false:=⟨Y6 hk Em Em ⟨_,_,_,_,_,_,_,rd00' hk hc hr,Z⟩,B4,Em,Em,B4,rd00' hk hc hr,Pz hk Y Y⟩
theorem tx01 (hk:Kn W0){cl rw:Nat}(hc:cl<5)(hr:rw<8):cP W0 67 [aG [S [],J U (rw:Nat),J U (cl:Nat),I true,I false,I false]] [] (aU [S [cB cl,36,dB rw],J U 0]) []:=rt01 hk Jk Jj (O0 hk hr) (O8 hk hc)<|Rf hk Y Y
theorem rd01' (hk:Kn W0){cl rw:Nat}(hc:cl<5)(hr:rw<8):cP W0 126 [S [cB cl,36,dB rw]] [] (aU [aG [S [],J U (rw:Nat),J U (cl:Nat),I true,I false,I false],J U 0]) []:=by have h:=rr01 hk (a20:=(cl:Nat)) (a30:=(rw+1:Nat)) (c:=cB cl) (d:=dB rw) Jk Jj bY83 (O2 hk hr) (O7 hk hr) (Gh Em Em) (Ny hk hc) (Gh Em Em)<|Nz Em B4;rw[wrS Y Y,show((rw+1:Nat):Int)-1=(rw:Nat)by omega]at h;exact h
theorem rf01 (hk:Kn W0){cl rw:Nat}(hc:cl<5)(hr:rw<8):Be W0 [cB cl,36,dB rw] [] (rw:Nat) (cl:Nat) true false:=⟨Y6 hk Em Em ⟨_,_,_,_,_,_,_,rd01' hk hc hr,Z⟩,B4,Em,Em,B4,rd01' hk hc hr,Pz hk Y Y⟩
theorem tx02 (hk:Kn W0){cl rw:Nat}(hc:cl<5)(hr:rw<8):cP W0 67 [aG [S [],J U (rw:Nat),J U (cl:Nat),I false,I true,I false]] [] (aU [S [36,cB cl,dB rw],J U 0]) []:=rt02 hk Jk Jj (O0 hk hr) (O8 hk hc)<|Rf hk Y Y
theorem rd02' (hk:Kn W0){cl rw:Nat}(hc:cl<5)(hr:rw<8):cP W0 126 [S [36,cB cl,dB rw]] [] (aU [aG [S [],J U (rw:Nat),J U (cl:Nat),I false,I true,I false],J U 0]) []:=by have h:=rr02 hk (a20:=(cl:Nat)) (a30:=(rw+1:Nat)) (c:=cB cl) (d:=dB rw) Jk Jj bY83 (O2 hk hr) (O7 hk hr) (Gh Em Em) (Ny hk hc) (Gh Em Em)<|Nz Em B4;rw[wrS Y Y,show((rw+1:Nat):Int)-1=(rw:Nat)by omega]at h;exact h
theorem rf02 (hk:Kn W0){cl rw:Nat}(hc:cl<5)(hr:rw<8):Be W0 [36,cB cl,dB rw] [] (rw:Nat) (cl:Nat) false true:=⟨Y6 hk Em Em ⟨_,_,_,_,_,_,_,rd02' hk hc hr,Z⟩,B4,by grind,Em,B4,rd02' hk hc hr,Pz hk Y Y⟩
theorem tx10 (hk:Kn W0){cl rw:Nat}(hc:cl<5)(hr:rw<8):cP W0 67 [aG [S [83],J U (rw:Nat),J U (cl:Nat),I false,I false,I false]] [] (aU [S [83,33,cB cl,dB rw],J U 0]) []:=rt10 hk Jk Jj (O0 hk hr) (O8 hk hc) (BQ hk)<|Rh hk Y Y
theorem rd10' (hk:Kn W0){cl rw:Nat}(hc:cl<5)(hr:rw<8):cP W0 126 [S [83,33,cB cl,dB rw]] [] (aU [aG [S [83],J U (rw:Nat),J U (cl:Nat),I false,I false,I false],J U 0]) []:=by have h:=rr10 hk (a20:=(cl:Nat)) (a30:=(rw+1:Nat)) (c:=cB cl) (d:=dB rw) Jk Jj bY82 (O2 hk hr) (O7 hk hr) (Gh Em Em) (Ny hk hc) (Gh Em Em) (W5 hk) (CF hk)<|Nz Em B4;rw[wrS Y Y,show((rw+1:Nat):Int)-1=(rw:Nat)by omega]at h;exact h
theorem rf10 (hk:Kn W0){cl rw:Nat}(hc:cl<5)(hr:rw<8):Be W0 [83,33,cB cl,dB rw] [83] (rw:Nat) (cl:Nat) false false:=⟨R7 hk (b:=83) (w:=[]) (c:=[cB cl,dB rw]) V V Em ⟨_,_,_,_,_,_,_,rd10' hk hc hr,Z⟩,B4,by grind,Em,B4,rd10' hk hc hr,Q2 hk Y Y⟩
theorem tx11 (hk:Kn W0){cl rw:Nat}(hc:cl<5)(hr:rw<8):cP W0 67 [aG [S [83],J U (rw:Nat),J U (cl:Nat),I true,I false,I false]] [] (aU [S [83,33,cB cl,36,dB rw],J U 0]) []:=rt11 hk Jk Jj (O0 hk hr) (O8 hk hc) (BQ hk)<|Rh hk Y Y
theorem rd11' (hk:Kn W0){cl rw:Nat}(hc:cl<5)(hr:rw<8):cP W0 126 [S [83,33,cB cl,36,dB rw]] [] (aU [aG [S [83],J U (rw:Nat),J U (cl:Nat),I true,I false,I false],J U 0]) []:=by have h:=rr11 hk (a20:=(cl:Nat)) (a30:=(rw+1:Nat)) (c:=cB cl) (d:=dB rw) Jk Jj bY82 (O2 hk hr) (O7 hk hr) (Gh Em Em) (Ny hk hc) (Gh Em Em) (W5 hk) (CF hk)<|Nz Em B4;rw[wrS Y Y,show((rw+1:Nat):Int)-1=(rw:Nat)by omega]at h;exact h
theorem rf11 (hk:Kn W0){cl rw:Nat}(hc:cl<5)(hr:rw<8):Be W0 [83,33,cB cl,36,dB rw] [83] (rw:Nat) (cl:Nat) true false:=⟨R7 hk (b:=83) (w:=[]) (c:=[cB cl,36,dB rw]) V V Em ⟨_,_,_,_,_,_,_,rd11' hk hc hr,Z⟩,B4,by grind,Em,B4,rd11' hk hc hr,Q2 hk Y Y⟩
theorem tx12 (hk:Kn W0){cl rw:Nat}(hc:cl<5)(hr:rw<8):cP W0 67 [aG [S [83],J U (rw:Nat),J U (cl:Nat),I false,I true,I false]] [] (aU [S [83,33,36,cB cl,dB rw],J U 0]) []:=rt12 hk Jk Jj (O0 hk hr) (O8 hk hc) (BQ hk)<|Rh hk Y Y
theorem rd12' (hk:Kn W0){cl rw:Nat}(hc:cl<5)(hr:rw<8):cP W0 126 [S [83,33,36,cB cl,dB rw]] [] (aU [aG [S [83],J U (rw:Nat),J U (cl:Nat),I false,I true,I false],J U 0]) []:=by have h:=rr12 hk (a20:=(cl:Nat)) (a30:=(rw+1:Nat)) (c:=cB cl) (d:=dB rw) Jk Jj bY82 (O2 hk hr) (O7 hk hr) (Gh Em Em) (Ny hk hc) (Gh Em Em) (W5 hk) (CF hk)<|Nz Em B4;rw[wrS Y Y,show((rw+1:Nat):Int)-1=(rw:Nat)by omega]at h;exact h
theorem rf12 (hk:Kn W0){cl rw:Nat}(hc:cl<5)(hr:rw<8):Be W0 [83,33,36,cB cl,dB rw] [83] (rw:Nat) (cl:Nat) false true:=⟨R7 hk (b:=83) (w:=[]) (c:=[36,cB cl,dB rw]) V V Em ⟨_,_,_,_,_,_,_,rd12' hk hc hr,Z⟩,B4,by grind,Em,B4,rd12' hk hc hr,Q2 hk Y Y⟩
theorem tx20 (hk:Kn W0){cl rw:Nat}(hc:cl<5)(hr:rw<8):cP W0 67 [aG [S [84,119,111,32,120],J U (rw:Nat),J U (cl:Nat),I false,I false,I false]] [] (aU [S [39,84,119,111,32,120,39,33,cB cl,dB rw],J U 0]) []:=rt20 hk Jk Jj (O0 hk hr) (O8 hk hc) (UO hk) (AZ hk)<|Qx hk Y Y
theorem rd20' (hk:Kn W0){cl rw:Nat}(hc:cl<5)(hr:rw<8):cP W0 126 [S [39,84,119,111,32,120,39,33,cB cl,dB rw]] [] (aU [aG [S [84,119,111,32,120],J U (rw:Nat),J U (cl:Nat),I false,I false,I false],J U 0]) []:=by have h:=rr20 hk (a20:=(cl:Nat)) (a30:=(rw+1:Nat)) (c:=cB cl) (d:=dB rw) Jk Jj bY81 (O2 hk hr) (O7 hk hr) (Gh Em Em) (Ny hk hc) (Gh Em Em) (Wh hk) (AN hk)<|Nz Em B4;rw[wrS Y Y,show((rw+1:Nat):Int)-1=(rw:Nat)by omega]at h;exact h
theorem rf20 (hk:Kn W0){cl rw:Nat}(hc:cl<5)(hr:rw<8):Be W0 [39,84,119,111,32,120,39,33,cB cl,dB rw] [84,119,111,32,120] (rw:Nat) (cl:Nat) false false:=⟨IP hk (c:=[cB cl,dB rw]) Em ⟨_,_,_,_,_,_,_,rd20' hk hc hr,Z⟩,B4,by grind,Em,B4,rd20' hk hc hr,Q3 hk Y Y⟩
theorem tx21 (hk:Kn W0){cl rw:Nat}(hc:cl<5)(hr:rw<8):cP W0 67 [aG [S [84,119,111,32,120],J U (rw:Nat),J U (cl:Nat),I true,I false,I false]] [] (aU [S [39,84,119,111,32,120,39,33,cB cl,36,dB rw],J U 0]) []:=rt21 hk Jk Jj (O0 hk hr) (O8 hk hc) (UO hk) (AZ hk)<|Qx hk Y Y
theorem rd21' (hk:Kn W0){cl rw:Nat}(hc:cl<5)(hr:rw<8):cP W0 126 [S [39,84,119,111,32,120,39,33,cB cl,36,dB rw]] [] (aU [aG [S [84,119,111,32,120],J U (rw:Nat),J U (cl:Nat),I true,I false,I false],J U 0]) []:=by have h:=rr21 hk (a20:=(cl:Nat)) (a30:=(rw+1:Nat)) (c:=cB cl) (d:=dB rw) Jk Jj bY81 (O2 hk hr) (O7 hk hr) (Gh Em Em) (Ny hk hc) (Gh Em Em) (Wh hk) (AN hk)<|Nz Em B4;rw[wrS Y Y,show((rw+1:Nat):Int)-1=(rw:Nat)by omega]at h;exact h
theorem rf21 (hk:Kn W0){cl rw:Nat}(hc:cl<5)(hr:rw<8):Be W0 [39,84,119,111,32,120,39,33,cB cl,36,dB rw] [84,119,111,32,120] (rw:Nat) (cl:Nat) true false:=⟨IP hk (c:=[cB cl,36,dB rw]) Em ⟨_,_,_,_,_,_,_,rd21' hk hc hr,Z⟩,B4,by grind,Em,B4,rd21' hk hc hr,Q3 hk Y Y⟩
theorem tx22 (hk:Kn W0){cl rw:Nat}(hc:cl<5)(hr:rw<8):cP W0 67 [aG [S [84,119,111,32,120],J U (rw:Nat),J U (cl:Nat),I false,I true,I false]] [] (aU [S [39,84,119,111,32,120,39,33,36,cB cl,dB rw],J U 0]) []:=rt22 hk Jk Jj (O0 hk hr) (O8 hk hc) (UO hk) (AZ hk)<|Qx hk Y Y
theorem rd22' (hk:Kn W0){cl rw:Nat}(hc:cl<5)(hr:rw<8):cP W0 126 [S [39,84,119,111,32,120,39,33,36,cB cl,dB rw]] [] (aU [aG [S [84,119,111,32,120],J U (rw:Nat),J U (cl:Nat),I false,I true,I false],J U 0]) []:=by have h:=rr22 hk (a20:=(cl:Nat)) (a30:=(rw+1:Nat)) (c:=cB cl) (d:=dB rw) Jk Jj bY81 (O2 hk hr) (O7 hk hr) (Gh Em Em) (Ny hk hc) (Gh Em Em) (Wh hk) (AN hk)<|Nz Em B4;rw[wrS Y Y,show((rw+1:Nat):Int)-1=(rw:Nat)by omega]at h;exact h
theorem rf22 (hk:Kn W0){cl rw:Nat}(hc:cl<5)(hr:rw<8):Be W0 [39,84,119,111,32,120,39,33,36,cB cl,dB rw] [84,119,111,32,120] (rw:Nat) (cl:Nat) false true:=⟨IP hk (c:=[36,cB cl,dB rw]) Em ⟨_,_,_,_,_,_,_,rd22' hk hc hr,Z⟩,B4,by grind,Em,B4,rd22' hk hc hr,Q3 hk Y Y⟩
theorem tx30 (hk:Kn W0){cl rw:Nat}(hc:cl<5)(hr:rw<8):cP W0 67 [aG [S [116,104,105,114,100],J U (rw:Nat),J U (cl:Nat),I false,I false,I false]] [] (aU [S [116,104,105,114,100,33,cB cl,dB rw],J U 0]) []:=rt30 hk Jk Jj (O0 hk hr) (O8 hk hc) (CM hk)<|Re hk Y Y
theorem rd30' (hk:Kn W0){cl rw:Nat}(hc:cl<5)(hr:rw<8):cP W0 126 [S [116,104,105,114,100,33,cB cl,dB rw]] [] (aU [aG [S [116,104,105,114,100],J U (rw:Nat),J U (cl:Nat),I false,I false,I false],J U 0]) []:=by have h:=rr30 hk (a20:=(cl:Nat)) (a30:=(rw+1:Nat)) (c:=cB cl) (d:=dB rw) Jk Jj bY80 (O2 hk hr) (O7 hk hr) (Gh Em Em) (Ny hk hc) (Gh Em Em) (W8 hk) (DC hk)<|Nz Em B4;rw[wrS Y Y,show((rw+1:Nat):Int)-1=(rw:Nat)by omega]at h;exact h
theorem rf30 (hk:Kn W0){cl rw:Nat}(hc:cl<5)(hr:rw<8):Be W0 [116,104,105,114,100,33,cB cl,dB rw] [116,104,105,114,100] (rw:Nat) (cl:Nat) false false:=⟨R7 hk (b:=116) (w:=[104,105,114,100]) (c:=[cB cl,dB rw]) V V Em ⟨_,_,_,_,_,_,_,rd30' hk hc hr,Z⟩,B4,by grind,Em,B4,rd30' hk hc hr,Q9 hk Y Y⟩
theorem tx31 (hk:Kn W0){cl rw:Nat}(hc:cl<5)(hr:rw<8):cP W0 67 [aG [S [116,104,105,114,100],J U (rw:Nat),J U (cl:Nat),I true,I false,I false]] [] (aU [S [116,104,105,114,100,33,cB cl,36,dB rw],J U 0]) []:=rt31 hk Jk Jj (O0 hk hr) (O8 hk hc) (CM hk)<|Re hk Y Y
theorem rd31' (hk:Kn W0){cl rw:Nat}(hc:cl<5)(hr:rw<8):cP W0 126 [S [116,104,105,114,100,33,cB cl,36,dB rw]] [] (aU [aG [S [116,104,105,114,100],J U (rw:Nat),J U (cl:Nat),I true,I false,I false],J U 0]) []:=by have h:=rr31 hk (a20:=(cl:Nat)) (a30:=(rw+1:Nat)) (c:=cB cl) (d:=dB rw) Jk Jj bY80 (O2 hk hr) (O7 hk hr) (Gh Em Em) (Ny hk hc) (Gh Em Em) (W8 hk) (DC hk)<|Nz Em B4;rw[wrS Y Y,show((rw+1:Nat):Int)-1=(rw:Nat)by omega]at h;exact h
theorem rf31 (hk:Kn W0){cl rw:Nat}(hc:cl<5)(hr:rw<8):Be W0 [116,104,105,114,100,33,cB cl,36,dB rw] [116,104,105,114,100] (rw:Nat) (cl:Nat) true false:=⟨R7 hk (b:=116) (w:=[104,105,114,100]) (c:=[cB cl,36,dB rw]) V V Em ⟨_,_,_,_,_,_,_,rd31' hk hc hr,Z⟩,B4,by grind,Em,B4,rd31' hk hc hr,Q9 hk Y Y⟩
theorem tx32 (hk:Kn W0){cl rw:Nat}(hc:cl<5)(hr:rw<8):cP W0 67 [aG [S [116,104,105,114,100],J U (rw:Nat),J U (cl:Nat),I false,I true,I false]] [] (aU [S [116,104,105,114,100,33,36,cB cl,dB rw],J U 0]) []:=rt32 hk Jk Jj (O0 hk hr) (O8 hk hc) (CM hk)<|Re hk Y Y
theorem rd32' (hk:Kn W0){cl rw:Nat}(hc:cl<5)(hr:rw<8):cP W0 126 [S [116,104,105,114,100,33,36,cB cl,dB rw]] [] (aU [aG [S [116,104,105,114,100],J U (rw:Nat),J U (cl:Nat),I false,I true,I false],J U 0]) []:=by have h:=rr32 hk (a20:=(cl:Nat)) (a30:=(rw+1:Nat)) (c:=cB cl) (d:=dB rw) Jk Jj bY80 (O2 hk hr) (O7 hk hr) (Gh Em Em) (Ny hk hc) (Gh Em Em) (W8 hk) (DC hk)<|Nz Em B4;rw[wrS Y Y,show((rw+1:Nat):Int)-1=(rw:Nat)by omega]at h;exact h
theorem rf32 (hk:Kn W0){cl rw:Nat}(hc:cl<5)(hr:rw<8):Be W0 [116,104,105,114,100,33,36,cB cl,dB rw] [116,104,105,114,100] (rw:Nat) (cl:Nat) false true:=⟨R7 hk (b:=116) (w:=[104,105,114,100]) (c:=[36,cB cl,dB rw]) V V Em ⟨_,_,_,_,_,_,_,rd32' hk hc hr,Z⟩,B4,by grind,Em,B4,rd32' hk hc hr,Q9 hk Y Y⟩
end Go.Abs
namespace Go.Abs
open Go.Proofs Go.RowKit
set_option maxRecDepth 10000000
variable {W0 : World}
theorem pk0 (hk:Kn W0){s1 s101:Bz}{a0 a1 a2 c1 r1:Int}{fc1 fr1:Bool}(h1:oC W0 38 [N12 s1 r1 c1 fr1 fc1]<|I true)(h2:oC W0 111 [S [49]]<|N13)(h3:oC W0 126 [S s101]<|N14 s1 r1 c1 fr1 fc1):cP W0 167 [N18 s101 a0 a1 a2] [] (N21 s1 r1 c1 fr1 fc1) []:=C9 hk Oe (ss0 29 [(true,97),(true,42)] 27 [] [(N14 s1 r1 c1 fr1 fc1,none),(I true,none),(N13,none),(I true,none)] []) Ar<|gdE ((s1==s1)&&((r1==r1)&&((c1==c1)&&((fr1==fr1)&&((fc1==fc1)&&((false==false)&&true)))))) true<|gdC h1<|gdC h2<|gdE ((s1==s1)&&((r1==r1)&&((c1==c1)&&((fr1==fr1)&&((fc1==fc1)&&((false==false)&&true)))))) true<|gdC h1<|gdC h3 gdN
theorem pt0 (hk:Kn W0){s1 s93 s101:Bz}{a0 a1 a2 c1 r1:Int}{fc1 fr1:Bool}(h1:oC W0 167 [N18 s101 a0 a1 a2]<|N21 s1 r1 c1 fr1 fc1)(h2:oC W0 166 [S s93]<|N22 s101 a0 a1 a2):cP W0 110 [S s93] [] (N21 s1 r1 c1 fr1 fc1) []:=C9 hk Og (ss0 2 [] 0 [] [(N22 s101 a0 a1 a2,none),(N21 s1 r1 c1 fr1 fc1,none)] []) Ar<|gdC h1<|gdC h2 gdN
theorem pk1 (hk:Kn W0){s1 s2 s101 s102:Bz}{a0 a1 a2 c1 c2 r1 r2:Int}{fc1 fc2 fr1 fr2:Bool}(h1:oC W0 38 [N12 s2 r2 c2 fr2 fc2]<|I true)(h2:oC W0 38 [N12 s1 r1 c1 fr1 fc1]<|I true)(h3:oC W0 126 [S s102]<|N14 s2 r2 c2 fr2 fc2)(h4:oC W0 126 [S s101]<|N14 s1 r1 c1 fr1 fc1):cP W0 167 [N24 s101 a0 a1 s102 a2] [] (N25 s1 r1 c1 fr1 fc1 s2 r2 c2 fr2 fc2) []:=C9 hk Oe (ss0 29 [(true,52),(true,49),(true,22),(true,15)] 25 [] [(N14 s1 r1 c1 fr1 fc1,none),(I true,none),(N14 s2 r2 c2 fr2 fc2,none),(I true,none),(I true,none),(I true,none)] []) Ar<|gdE ((s2==s2)&&((r2==r2)&&((c2==c2)&&((fr2==fr2)&&((fc2==fc2)&&((false==false)&&true)))))) true<|gdC h1<|gdE ((s1==s1)&&((r1==r1)&&((c1==c1)&&((fr1==fr1)&&((fc1==fc1)&&((false==false)&&true)))))) true<|gdC h2<|gdE ((s2==s2)&&((r2==r2)&&((c2==c2)&&((fr2==fr2)&&((fc2==fc2)&&((false==false)&&true)))))) true<|gdC h1<|gdC h3<|gdE ((s1==s1)&&((r1==r1)&&((c1==c1)&&((fr1==fr1)&&((fc1==fc1)&&((false==false)&&true)))))) true<|gdC h2<|gdC h4 gdN
theorem pt1 (hk:Kn W0){s1 s2 s93 s101 s102:Bz}{a0 a1 a2 c1 c2 r1 r2:Int}{fc1 fc2 fr1 fr2:Bool}(h1:oC W0 167 [N24 s101 a0 a1 s102 a2]<|N25 s1 r1 c1 fr1 fc1 s2 r2 c2 fr2 fc2)(h2:oC W0 166 [S s93]<|N26 s101 a0 a1 s102 a2):cP W0 110 [S s93] [] (N25 s1 r1 c1 fr1 fc1 s2 r2 c2 fr2 fc2) []:=C9 hk Og (ss0 2 [] 0 [] [(N26 s101 a0 a1 s102 a2,none),(N25 s1 r1 c1 fr1 fc1 s2 r2 c2 fr2 fc2,none)] []) Ar<|gdC h1<|gdC h2 gdN
theorem pk2 (hk:Kn W0){s1 s101 s103:Bz}{a0 a1 a2 a3 a4 a5 c1 c3 r1 r3:Int}{fc1 fc3 fr1 fr3:Bool}(h1:oC W0 38 [N27 r3 c3 fr3 fc3]<|I true)(h2:oC W0 38 [N12 s1 r1 c1 fr1 fc1]<|I true)(h3:oC W0 126 [S s103]<|N28 r3 c3 fr3 fc3)(h4:oC W0 126 [S s101]<|N14 s1 r1 c1 fr1 fc1):cP W0 167 [N32 a0 a1 s101 a2 a3 s103 a4 a5] [] (N34 s1 r1 c1 fr1 fc1 r3 c3 fr3 fc3) []:=C9 hk Oe (ss0 61 [(true,20),(true,0),(true,78),(true,0),(true,14)] 39 [] [(N14 s1 r1 c1 fr1 fc1,none),(I true,none),(N28 r3 c3 fr3 fc3,none),(I true,none),(I true,none),(I true,none),(I true,none)] [1,2,0,2,0,0]) Ar<|gdE ((([]:Bz)==([]:Bz))&&((r3==r3)&&((c3==c3)&&((fr3==fr3)&&((fc3==fc3)&&((false==false)&&true)))))) true<|gdE ((s1==s1)&&((r1==r1)&&((c1==c1)&&((fr1==fr1)&&((fc1==fc1)&&((false==false)&&true)))))) true<|gdC h1<|gdC h2<|gdE ((([]:Bz)==([]:Bz))&&((r3==r3)&&((c3==c3)&&((fr3==fr3)&&((fc3==fc3)&&((false==false)&&true)))))) true<|gdE ((s1==s1)&&((r1==r1)&&((c1==c1)&&((fr1==fr1)&&((fc1==fc1)&&((false==false)&&true)))))) true<|gdC h1<|gdC h2<|gdC h3<|gdE ((s1==s1)&&((r1==r1)&&((c1==c1)&&((fr1==fr1)&&((fc1==fc1)&&((false==false)&&true)))))) true<|gdC h2<|gdC h4 gdN
theorem pt2 (hk:Kn W0){s1 s93 s101 s103:Bz}{a0 a1 a2 a3 a4 a5 c1 c3 r1 r3:Int}{fc1 fc3 fr1 fr3:Bool}(h1:oC W0 167 [N32 a0 a1 s101 a2 a3 s103 a4 a5]<|N34 s1 r1 c1 fr1 fc1 r3 c3 fr3 fc3)(h2:oC W0 166 [S s93]<|N35 a0 a1 s101 a2 a3 s103 a4 a5):cP W0 110 [S s93] [] (N34 s1 r1 c1 fr1 fc1 r3 c3 fr3 fc3) []:=C9 hk Og (ss0 2 [] 0 [] [(N35 a0 a1 s101 a2 a3 s103 a4 a5,none),(N34 s1 r1 c1 fr1 fc1 r3 c3 fr3 fc3,none)] []) Ar<|gdC h1<|gdC h2 gdN
theorem pk3 (hk:Kn W0){s1 s2 s101 s102:Bz}{a0 a1 a2 a3 a4 a5 a6 a7 a8 a9 c1 c2 r1 r2:Int}{fc1 fc2 fr1 fr2:Bool}(h1:oC W0 38 [N12 s2 r2 c2 fr2 fc2]<|I true)(h2:oC W0 38 [N12 s1 r1 c1 fr1 fc1]<|I true)(h3:oC W0 111 [S [48]]<|N36)(h4:oC W0 126 [S s102]<|N14 s2 r2 c2 fr2 fc2)(h5:oC W0 111 [S [50]]<|N37)(h6:oC W0 126 [S s101]<|N14 s1 r1 c1 fr1 fc1):cP W0 167 [N40 a0 a1 s101 a2 a3 a4 a5 s102 a6 a7 a8 a9] [] (N43 s1 r1 c1 fr1 fc1 s2 r2 c2 fr2 fc2) []:=C9 hk Oe (ss0 58 [(true,119),(true,158),(true,50),(true,40)] 97 [] [(N14 s1 r1 c1 fr1 fc1,none),(I true,none),(N37,none),(N14 s2 r2 c2 fr2 fc2,none),(I true,none),(N36,none),(I true,none),(I true,none)] [0,2,0,0,0,2,0,0,0,2,0,0]) Ar<|gdE ((s2==s2)&&((r2==r2)&&((c2==c2)&&((fr2==fr2)&&((fc2==fc2)&&((false==false)&&true)))))) true<|gdC h1<|gdE ((s1==s1)&&((r1==r1)&&((c1==c1)&&((fr1==fr1)&&((fc1==fc1)&&((false==false)&&true)))))) true<|gdC h2<|gdC h3<|gdE ((s2==s2)&&((r2==r2)&&((c2==c2)&&((fr2==fr2)&&((fc2==fc2)&&((false==false)&&true)))))) true<|gdC h1<|gdC h4<|gdC h5<|gdE ((s1==s1)&&((r1==r1)&&((c1==c1)&&((fr1==fr1)&&((fc1==fc1)&&((false==false)&&true)))))) true<|gdC h2<|gdC h6 gdN
theorem pt3 (hk:Kn W0){s1 s2 s93 s101 s102:Bz}{a0 a1 a2 a3 a4 a5 a6 a7 a8 a9 c1 c2 r1 r2:Int}{fc1 fc2 fr1 fr2:Bool}(h1:oC W0 167 [N40 a0 a1 s101 a2 a3 a4 a5 s102 a6 a7 a8 a9]<|N43 s1 r1 c1 fr1 fc1 s2 r2 c2 fr2 fc2)(h2:oC W0 166 [S s93]<|N44 a0 a1 s101 a2 a3 a4 a5 s102 a6 a7 a8 a9):cP W0 110 [S s93] [] (N43 s1 r1 c1 fr1 fc1 s2 r2 c2 fr2 fc2) []:=C9 hk Og (ss0 2 [] 0 [] [(N44 a0 a1 s101 a2 a3 a4 a5 s102 a6 a7 a8 a9,none),(N43 s1 r1 c1 fr1 fc1 s2 r2 c2 fr2 fc2,none)] []) Ar<|gdC h1<|gdC h2 gdN
theorem pk4 (hk:Kn W0){s1 s101:Bz}{a0 a1 a2 a3 a4 a5 a6 a7 a8 a9 a10 c1 r1:Int}{fc1 fr1:Bool}(h1:oC W0 38 [N12 s1 r1 c1 fr1 fc1]<|I true)(h2:oC W0 126 [S s101]<|N14 s1 r1 c1 fr1 fc1)(h3:oC W0 111 [S [52]]<|N45)(h4:oC W0 111 [S [51]]<|N46)(h5:oC W0 111 [S [50]]<|N37)(h6:oC W0 111 [S [49]]<|N13):cP W0 167 [N47 a0 a1 a2 a3 a4 a5 a6 a7 a8 a9 s101 a10] [] (N48 s1 r1 c1 fr1 fc1) []:=C9 hk Oe (ss0 189 [(true,197),(true,15)] 70 [] [(N13,none),(N37,none),(N46,none),(N45,none),(N14 s1 r1 c1 fr1 fc1,none),(I true,none),(I true,none)] []) Ar<|gdE ((s1==s1)&&((r1==r1)&&((c1==c1)&&((fr1==fr1)&&((fc1==fc1)&&((false==false)&&true)))))) true<|gdC h1<|gdE ((s1==s1)&&((r1==r1)&&((c1==c1)&&((fr1==fr1)&&((fc1==fc1)&&((false==false)&&true)))))) true<|gdC h1<|gdC h2<|gdC h3<|gdC h4<|gdC h5<|gdC h6 gdN
theorem pt4 (hk:Kn W0){s1 s93 s101:Bz}{a0 a1 a2 a3 a4 a5 a6 a7 a8 a9 a10 c1 r1:Int}{fc1 fr1:Bool}(h1:oC W0 167 [N47 a0 a1 a2 a3 a4 a5 a6 a7 a8 a9 s101 a10]<|N48 s1 r1 c1 fr1 fc1)(h2:oC W0 166 [S s93]<|N49 a0 a1 a2 a3 a4 a5 a6 a7 a8 a9 s101 a10):cP W0 110 [S s93] [] (N48 s1 r1 c1 fr1 fc1) []:=C9 hk Og (ss0 2 [] 0 [] [(N49 a0 a1 a2 a3 a4 a5 a6 a7 a8 a9 s101 a10,none),(N48 s1 r1 c1 fr1 fc1,none)] []) Ar<|gdC h1<|gdC h2 gdN
theorem pk5 (hk:Kn W0){s1 s101 s103:Bz}{a0 a1 a2 a3 a4 c1 c3 r1 r3:Int}{fc1 fc3 fr1 fr3:Bool}(h1:oC W0 38 [N27 r3 c3 fr3 fc3]<|I true)(h2:oC W0 38 [N12 s1 r1 c1 fr1 fc1]<|I true)(h3:oC W0 111 [S [50]]<|N37)(h4:oC W0 126 [S s103]<|N28 r3 c3 fr3 fc3)(h5:oC W0 126 [S s101]<|N14 s1 r1 c1 fr1 fc1):cP W0 167 [N50 s101 a0 a1 s103 a2 a3 a4] [] (N51 s1 r1 c1 fr1 fc1 r3 c3 fr3 fc3) []:=C9 hk Oe (ss0 29 [(true,20),(true,0),(true,98),(true,0),(true,41)] 29 [] [(N14 s1 r1 c1 fr1 fc1,none),(I true,none),(N28 r3 c3 fr3 fc3,none),(I true,none),(I true,none),(N37,none),(I true,none),(I true,none)] [1,2]) Ar<|gdE ((([]:Bz)==([]:Bz))&&((r3==r3)&&((c3==c3)&&((fr3==fr3)&&((fc3==fc3)&&((false==false)&&true)))))) true<|gdE ((s1==s1)&&((r1==r1)&&((c1==c1)&&((fr1==fr1)&&((fc1==fc1)&&((false==false)&&true)))))) true<|gdC h1<|gdC h2<|gdC h3<|gdE ((([]:Bz)==([]:Bz))&&((r3==r3)&&((c3==c3)&&((fr3==fr3)&&((fc3==fc3)&&((false==false)&&true)))))) true<|gdE ((s1==s1)&&((r1==r1)&&((c1==c1)&&((fr1==fr1)&&((fc1==fc1)&&((false==false)&&true)))))) true<|gdC h1<|gdC h2<|gdC h4<|gdE ((s1==s1)&&((r1==r1)&&((c1==c1)&&((fr1==fr1)&&((fc1==fc1)&&((false==false)&&true)))))) true<|gdC h2<|gdC h5 gdN
theorem pt5 (hk:Kn W0){s1 s93 s101 s103:Bz}{a0 a1 a2 a3 a4 c1 c3 r1 r3:Int}{fc1 fc3 fr1 fr3:Bool}(h1:oC W0 167 [N50 s101 a0 a1 s103 a2 a3 a4]<|N51 s1 r1 c1 fr1 fc1 r3 c3 fr3 fc3)(h2:oC W0 166 [S s93]<|N52 s101 a0 a1 s103 a2 a3 a4):cP W0 110 [S s93] [] (N51 s1 r1 c1 fr1 fc1 r3 c3 fr3 fc3) []:=C9 hk Og (ss0 2 [] 0 [] [(N52 s101 a0 a1 s103 a2 a3 a4,none),(N51 s1 r1 c1 fr1 fc1 r3 c3 fr3 fc3,none)] []) Ar<|gdC h1<|gdC h2 gdN
theorem pk6 (hk:Kn W0){s1 s2 s101 s102:Bz}{a0 a1 a2 a3 a4 a5 a6 a7 a8 a9 a10 a11 c1 c2 r1 r2:Int}{fc1 fc2 fr1 fr2:Bool}(h1:oC W0 38 [N12 s2 r2 c2 fr2 fc2]<|I true)(h2:oC W0 126 [S [120]]<|N53)(h3:oC W0 38 [N12 s1 r1 c1 fr1 fc1]<|I true)(h4:oC W0 126 [S s102]<|N14 s2 r2 c2 fr2 fc2)(h5:oC W0 126 [S s101]<|N14 s1 r1 c1 fr1 fc1):cP W0 167 [N56 a0 a1 a2 a3 s101 a4 a5 a6 a7 a8 a9 s102 a10 a11] [] (N58 s1 r1 c1 fr1 fc1 s2 r2 c2 fr2 fc2) []:=C9 hk Oe (ss0 84 [(true,209),(true,111),(true,162),(true,16)] 113 [] [(N53,none),(N14 s1 r1 c1 fr1 fc1,none),(I true,none),(N53,none),(N53,none),(N14 s2 r2 c2 fr2 fc2,none),(I true,none),(N53,none),(I true,none),(N53,none),(N53,none),(I true,none)] []) Ar<|gdE ((s2==s2)&&((r2==r2)&&((c2==c2)&&((fr2==fr2)&&((fc2==fc2)&&((false==false)&&true)))))) true<|gdC h1<|gdC h2<|gdC h2<|gdE ((s1==s1)&&((r1==r1)&&((c1==c1)&&((fr1==fr1)&&((fc1==fc1)&&((false==false)&&true)))))) true<|gdC h3<|gdC h2<|gdE ((s2==s2)&&((r2==r2)&&((c2==c2)&&((fr2==fr2)&&((fc2==fc2)&&((false==false)&&true)))))) true<|gdC h1<|gdC h4<|gdC h2<|gdC h2<|gdE ((s1==s1)&&((r1==r1)&&((c1==c1)&&((fr1==fr1)&&((fc1==fc1)&&((false==false)&&true)))))) true<|gdC h3<|gdC h5<|gdC h2 gdN
theorem pt6 (hk:Kn W0){s1 s2 s93 s101 s102:Bz}{a0 a1 a2 a3 a4 a5 a6 a7 a8 a9 a10 a11 c1 c2 r1 r2:Int}{fc1 fc2 fr1 fr2:Bool}(h1:oC W0 167 [N56 a0 a1 a2 a3 s101 a4 a5 a6 a7 a8 a9 s102 a10 a11]<|N58 s1 r1 c1 fr1 fc1 s2 r2 c2 fr2 fc2)(h2:oC W0 166 [S s93]<|N59 a0 a1 a2 a3 s101 a4 a5 a6 a7 a8 a9 s102 a10 a11):cP W0 110 [S s93] [] (N58 s1 r1 c1 fr1 fc1 s2 r2 c2 fr2 fc2) []:=C9 hk Og (ss0 2 [] 0 [] [(N59 a0 a1 a2 a3 s101 a4 a5 a6 a7 a8 a9 s102 a10 a11,none),(N58 s1 r1 c1 fr1 fc1 s2 r2 c2 fr2 fc2,none)] []) Ar<|gdC h1<|gdC h2 gdN
theorem pk7 (hk:Kn W0){s1 s101:Bz}{a0 a1 a2 a3 a4 a5 a6 a7 a8 a9 a10 a11 a12 a13 a14 a15 a16 a17 a18 a19 a20 a21 a22 a23 a24 a25 a26 a27 a28 a29 a30 a31 c1 r1:Int}{fc1 fr1:Bool}(h1:oC W0 38 [N12 s1 r1 c1 fr1 fc1]<|I true)(h2:oC W0 126 [S [110]]<|N53)(h3:oC W0 126 [S [102]]<|N53)(h4:oC W0 126 [S s101]<|N14 s1 r1 c1 fr1 fc1)(h5:oC W0 111 [S [49]]<|N13):cP W0 167 [N61 a0 a1 a2 a3 a4 a5 a6 a7 a8 a9 a10 a11 a12 a13 a14 a15 a16 a17 a18 a19 a20 a21 a22 a23 a24 a25 a26 a27 a28 s101 a29 a30 a31] [] (N65 s1 r1 c1 fr1 fc1) []:=C9 hk Oe (ss0 719 [(true,565),(true,16)] 299 [] [(N53,none),(N53,none),(N53,none),(N13,none),(N13,none),(N53,none),(N53,none),(N13,none),(N14 s1 r1 c1 fr1 fc1,none),(I true,none),(N53,none),(N53,none),(N53,none),(N53,none),(N53,none),(I true,none)] [0,2,0,0,0,2,0,0,0,2,0,0,0,2,0,0,0,2,0,0]) Ar<|gdE ((s1==s1)&&((r1==r1)&&((c1==c1)&&((fr1==fr1)&&((fc1==fc1)&&((false==false)&&true)))))) true<|gdC h1<|gdC h2<|gdC h2<|gdC h2<|gdC h2<|gdC h3<|gdE ((s1==s1)&&((r1==r1)&&((c1==c1)&&((fr1==fr1)&&((fc1==fc1)&&((false==false)&&true)))))) true<|gdC h1<|gdC h4<|gdC h5<|gdC h2<|gdC h2<|gdC h5<|gdC h5<|gdC h2<|gdC h2<|gdC h3 gdN
theorem pt7 (hk:Kn W0){s1 s93 s101:Bz}{a0 a1 a2 a3 a4 a5 a6 a7 a8 a9 a10 a11 a12 a13 a14 a15 a16 a17 a18 a19 a20 a21 a22 a23 a24 a25 a26 a27 a28 a29 a30 a31 c1 r1:Int}{fc1 fr1:Bool}(h1:oC W0 167 [N61 a0 a1 a2 a3 a4 a5 a6 a7 a8 a9 a10 a11 a12 a13 a14 a15 a16 a17 a18 a19 a20 a21 a22 a23 a24 a25 a26 a27 a28 s101 a29 a30 a31]<|N65 s1 r1 c1 fr1 fc1)(h2:oC W0 166 [S s93]<|N66 a0 a1 a2 a3 a4 a5 a6 a7 a8 a9 a10 a11 a12 a13 a14 a15 a16 a17 a18 a19 a20 a21 a22 a23 a24 a25 a26 a27 a28 s101 a29 a30 a31):cP W0 110 [S s93] [] (N65 s1 r1 c1 fr1 fc1) []:=C9 hk Og (ss0 2 [] 0 [] [(N66 a0 a1 a2 a3 a4 a5 a6 a7 a8 a9 a10 a11 a12 a13 a14 a15 a16 a17 a18 a19 a20 a21 a22 a23 a24 a25 a26 a27 a28 s101 a29 a30 a31,none),(N65 s1 r1 c1 fr1 fc1,none)] []) Ar<|gdC h1<|gdC h2 gdN
theorem pk8 (hk:Kn W0){s1 s101:Bz}{a0 a1 a2 c1 r1:Int}{fc1 fr1:Bool}(h1:oC W0 38 [N12 s1 r1 c1 fr1 fc1]<|I true)(h2:oC W0 126 [S s101]<|N14 s1 r1 c1 fr1 fc1):cP W0 167 [N67 s101 a0 a1 a2] [] (N68 s1 r1 c1 fr1 fc1) []:=C9 hk Oe (ss0 29 [(true,113),(true,60)] 25 [] [(N14 s1 r1 c1 fr1 fc1,none),(I true,none),(I true,none)] []) Ar<|gdE ((s1==s1)&&((r1==r1)&&((c1==c1)&&((fr1==fr1)&&((fc1==fc1)&&((false==false)&&true)))))) true<|gdC h1<|gdE ((s1==s1)&&((r1==r1)&&((c1==c1)&&((fr1==fr1)&&((fc1==fc1)&&((false==false)&&true)))))) true<|gdC h1<|gdC h2 gdN
theorem pt8 (hk:Kn W0){s1 s93 s101:Bz}{a0 a1 a2 c1 r1:Int}{fc1 fr1:Bool}(h1:oC W0 167 [N67 s101 a0 a1 a2]<|N68 s1 r1 c1 fr1 fc1)(h2:oC W0 166 [S s93]<|N69 s101 a0 a1 a2):cP W0 110 [S s93] [] (N68 s1 r1 c1 fr1 fc1) []:=C9 hk Og (ss0 2 [] 0 [] [(N69 s101 a0 a1 a2,none),(N68 s1 r1 c1 fr1 fc1,none)] []) Ar<|gdC h1<|gdC h2 gdN
theorem pk9 (hk:Kn W0){s1 s101:Bz}{a0 a1 a2 c1 r1:Int}{fc1 fr1:Bool}(h1:oC W0 38 [N12 s1 r1 c1 fr1 fc1]<|I true)(h2:oC W0 126 [S s101]<|N14 s1 r1 c1 fr1 fc1)(h3:oC W0 111 [S [49]]<|N13):cP W0 167 [N70 a0 a1 s101 a2] [] (N71 s1 r1 c1 fr1 fc1) []:=C9 hk Oe (ss0 80 [(true,77),(true,15)] 25 [] [(N13,none),(N14 s1 r1 c1 fr1 fc1,none),(I true,none),(I true,none)] []) Ar<|gdE ((s1==s1)&&((r1==r1)&&((c1==c1)&&((fr1==fr1)&&((fc1==fc1)&&((false==false)&&true)))))) true<|gdC h1<|gdE ((s1==s1)&&((r1==r1)&&((c1==c1)&&((fr1==fr1)&&((fc1==fc1)&&((false==false)&&true)))))) true<|gdC h1<|gdC h2<|gdC h3 gdN
theorem pt9 (hk:Kn W0){s1 s93 s101:Bz}{a0 a1 a2 c1 r1:Int}{fc1 fr1:Bool}(h1:oC W0 167 [N70 a0 a1 s101 a2]<|N71 s1 r1 c1 fr1 fc1)(h2:oC W0 166 [S s93]<|N72 a0 a1 s101 a2):cP W0 110 [S s93] [] (N71 s1 r1 c1 fr1 fc1) []:=C9 hk Og (ss0 2 [] 0 [] [(N72 a0 a1 s101 a2,none),(N71 s1 r1 c1 fr1 fc1,none)] []) Ar<|gdC h1<|gdC h2 gdN
theorem pk10 (hk:Kn W0){s1 s101:Bz}{a0 a1 a2 c1 r1:Int}{fc1 fr1:Bool}(h1:oC W0 38 [N12 s1 r1 c1 fr1 fc1]<|I true)(h2:oC W0 38 [N73]<|I true)(h3:oC W0 126 [S s101]<|N14 s1 r1 c1 fr1 fc1)(h4:oC W0 126 [S [35,82,69,70,33]]<|N74):cP W0 167 [N75 a0 a1 s101 a2] [] (N76 s1 r1 c1 fr1 fc1) []:=C9 hk Oe (ss0 80 [(true,70),(true,15)] 25 [] [(N74,none),(I true,none),(N14 s1 r1 c1 fr1 fc1,none),(I true,none),(I true,none),(I true,none)] []) Ar<|gdE ((s1==s1)&&((r1==r1)&&((c1==c1)&&((fr1==fr1)&&((fc1==fc1)&&((false==false)&&true)))))) true<|gdC h1<|gdC h2<|gdE ((s1==s1)&&((r1==r1)&&((c1==c1)&&((fr1==fr1)&&((fc1==fc1)&&((false==false)&&true)))))) true<|gdC h1<|gdC h3<|gdC h2<|gdC h4 gdN
theorem pt10 (hk:Kn W0){s1 s93 s101:Bz}{a0 a1 a2 c1 r1:Int}{fc1 fr1:Bool}(h1:oC W0 167 [N75 a0 a1 s101 a2]<|N76 s1 r1 c1 fr1 fc1)(h2:oC W0 166 [S s93]<|N77 a0 a1 s101 a2):cP W0 110 [S s93] [] (N76 s1 r1 c1 fr1 fc1) []:=C9 hk Og (ss0 2 [] 0 [] [(N77 a0 a1 s101 a2,none),(N76 s1 r1 c1 fr1 fc1,none)] []) Ar<|gdC h1<|gdC h2 gdN
theorem pk11 (hk:Kn W0){s1 s101:Bz}{a0 a1 a2 c1 r1:Int}{fc1 fr1:Bool}(h1:oC W0 38 [N12 s1 r1 c1 fr1 fc1]<|I true)(h2:oC W0 126 [S s101]<|N14 s1 r1 c1 fr1 fc1):cP W0 167 [N78 a0 s101 a1 a2] [] (N79 s1 r1 c1 fr1 fc1) []:=C9 hk Oe (ss0 37 [(true,69),(true,16)] 20 [] [(N14 s1 r1 c1 fr1 fc1,none),(I true,none),(I true,none)] []) Ar<|gdE ((s1==s1)&&((r1==r1)&&((c1==c1)&&((fr1==fr1)&&((fc1==fc1)&&((false==false)&&true)))))) true<|gdC h1<|gdE ((s1==s1)&&((r1==r1)&&((c1==c1)&&((fr1==fr1)&&((fc1==fc1)&&((false==false)&&true)))))) true<|gdC h1<|gdC h2 gdN
theorem pt11 (hk:Kn W0){s1 s93 s101:Bz}{a0 a1 a2 c1 r1:Int}{fc1 fr1:Bool}(h1:oC W0 167 [N78 a0 s101 a1 a2]<|N79 s1 r1 c1 fr1 fc1)(h2:oC W0 166 [S s93]<|N80 a0 s101 a1 a2):cP W0 110 [S s93] [] (N79 s1 r1 c1 fr1 fc1) []:=C9 hk Og (ss0 2 [] 0 [] [(N80 a0 s101 a1 a2,none),(N79 s1 r1 c1 fr1 fc1,none)] []) Ar<|gdC h1<|gdC h2 gdN
theorem pk12 (hk:Kn W0){s1 s2 s101 s102 s103:Bz}{a0 a1 a2 a3 a4 a5 a6 a7 c1 c2 c3 r1 r2 r3:Int}{fc1 fc2 fc3 fr1 fr2 fr3:Bool}(h1:oC W0 38 [N12 s2 r2 c2 fr2 fc2]<|I true)(h2:oC W0 38 [N27 r3 c3 fr3 fc3]<|I true)(h3:oC W0 38 [N12 s1 r1 c1 fr1 fc1]<|I true)(h4:oC W0 126 [S s102]<|N14 s2 r2 c2 fr2 fc2)(h5:oC W0 126 [S s103]<|N28 r3 c3 fr3 fc3)(h6:oC W0 126 [S s101]<|N14 s1 r1 c1 fr1 fc1):cP W0 167 [N81 a0 a1 s101 a2 a3 s103 a4 a5 s102 a6 a7] [] (N82 s1 r1 c1 fr1 fc1 r3 c3 fr3 fc3 s2 r2 c2 fr2 fc2) []:=C9 hk Oe (ss0 67 [(true,20),(true,0),(true,54),(true,89),(true,0),(true,21),(true,15)] 65 [] [(N14 s1 r1 c1 fr1 fc1,none),(I true,none),(N28 r3 c3 fr3 fc3,none),(I true,none),(I true,none),(N14 s2 r2 c2 fr2 fc2,none),(I true,none),(I true,none),(I true,none),(I true,none)] [1,2,0,2,0,0,0,2,0,0]) Ar<|gdE ((s2==s2)&&((r2==r2)&&((c2==c2)&&((fr2==fr2)&&((fc2==fc2)&&((false==false)&&true)))))) true<|gdC h1<|gdE ((([]:Bz)==([]:Bz))&&((r3==r3)&&((c3==c3)&&((fr3==fr3)&&((fc3==fc3)&&((false==false)&&true)))))) true<|gdE ((s1==s1)&&((r1==r1)&&((c1==c1)&&((fr1==fr1)&&((fc1==fc1)&&((false==false)&&true)))))) true<|gdC h2<|gdC h3<|gdE ((s2==s2)&&((r2==r2)&&((c2==c2)&&((fr2==fr2)&&((fc2==fc2)&&((false==false)&&true)))))) true<|gdC h1<|gdC h4<|gdE ((([]:Bz)==([]:Bz))&&((r3==r3)&&((c3==c3)&&((fr3==fr3)&&((fc3==fc3)&&((false==false)&&true)))))) true<|gdE ((s1==s1)&&((r1==r1)&&((c1==c1)&&((fr1==fr1)&&((fc1==fc1)&&((false==false)&&true)))))) true<|gdC h2<|gdC h3<|gdC h5<|gdE ((s1==s1)&&((r1==r1)&&((c1==c1)&&((fr1==fr1)&&((fc1==fc1)&&((false==false)&&true)))))) true<|gdC h3<|gdC h6 gdN
theorem pt12 (hk:Kn W0){s1 s2 s93 s101 s102 s103:Bz}{a0 a1 a2 a3 a4 a5 a6 a7 c1 c2 c3 r1 r2 r3:Int}{fc1 fc2 fc3 fr1 fr2 fr3:Bool}(h1:oC W0 167 [N81 a0 a1 s101 a2 a3 s103 a4 a5 s102 a6 a7]<|N82 s1 r1 c1 fr1 fc1 r3 c3 fr3 fc3 s2 r2 c2 fr2 fc2)(h2:oC W0 166 [S s93]<|N83 a0 a1 s101 a2 a3 s103 a4 a5 s102 a6 a7):cP W0 110 [S s93] [] (N82 s1 r1 c1 fr1 fc1 r3 c3 fr3 fc3 s2 r2 c2 fr2 fc2) []:=C9 hk Og (ss0 2 [] 0 [] [(N83 a0 a1 s101 a2 a3 s103 a4 a5 s102 a6 a7,none),(N82 s1 r1 c1 fr1 fc1 r3 c3 fr3 fc3 s2 r2 c2 fr2 fc2,none)] []) Ar<|gdC h1<|gdC h2 gdN
theorem pk13 (hk:Kn W0){s1 s101:Bz}{a0 a1 a2 c1 r1:Int}{fc1 fr1:Bool}(h1:oC W0 38 [N12 s1 r1 c1 fr1 fc1]<|I true)(h2:oC W0 126 [S [114,97,116,101]]<|N53)(h3:oC W0 126 [S s101]<|N14 s1 r1 c1 fr1 fc1):cP W0 167 [N84 a0 a1 s101 a2] [] (N85 s1 r1 c1 fr1 fc1) []:=C9 hk Oe (ss0 114 [(true,107),(true,15)] 27 [] [(N53,none),(N14 s1 r1 c1 fr1 fc1,none),(I true,none),(N53,none),(I true,none)] []) Ar<|gdE ((s1==s1)&&((r1==r1)&&((c1==c1)&&((fr1==fr1)&&((fc1==fc1)&&((false==false)&&true)))))) true<|gdC h1<|gdC h2<|gdE ((s1==s1)&&((r1==r1)&&((c1==c1)&&((fr1==fr1)&&((fc1==fc1)&&((false==false)&&true)))))) true<|gdC h1<|gdC h3<|gdC h2 gdN
theorem pt13 (hk:Kn W0){s1 s93 s101:Bz}{a0 a1 a2 c1 r1:Int}{fc1 fr1:Bool}(h1:oC W0 167 [N84 a0 a1 s101 a2]<|N85 s1 r1 c1 fr1 fc1)(h2:oC W0 166 [S s93]<|N86 a0 a1 s101 a2):cP W0 110 [S s93] [] (N85 s1 r1 c1 fr1 fc1) []:=C9 hk Og (ss0 2 [] 0 [] [(N86 a0 a1 s101 a2,none),(N85 s1 r1 c1 fr1 fc1,none)] []) Ar<|gdC h1<|gdC h2 gdN
theorem pk14 (hk:Kn W0){s1 s101:Bz}{a0 a1 a2 c1 r1:Int}{fc1 fr1:Bool}(h1:oC W0 38 [N12 s1 r1 c1 fr1 fc1]<|I true)(h2:oC W0 126 [S [79,119,110]]<|N53)(h3:oC W0 126 [S s101]<|N14 s1 r1 c1 fr1 fc1):cP W0 167 [N87 a0 a1 s101 a2] [] (N88 s1 r1 c1 fr1 fc1) []:=C9 hk Oe (ss0 104 [(true,97),(true,15)] 27 [] [(N53,none),(N14 s1 r1 c1 fr1 fc1,none),(I true,none),(N53,none),(I true,none)] []) Ar<|gdE ((s1==s1)&&((r1==r1)&&((c1==c1)&&((fr1==fr1)&&((fc1==fc1)&&((false==false)&&true)))))) true<|gdC h1<|gdC h2<|gdE ((s1==s1)&&((r1==r1)&&((c1==c1)&&((fr1==fr1)&&((fc1==fc1)&&((false==false)&&true)))))) true<|gdC h1<|gdC h3<|gdC h2 gdN
theorem pt14 (hk:Kn W0){s1 s93 s101:Bz}{a0 a1 a2 c1 r1:Int}{fc1 fr1:Bool}(h1:oC W0 167 [N87 a0 a1 s101 a2]<|N88 s1 r1 c1 fr1 fc1)(h2:oC W0 166 [S s93]<|N89 a0 a1 s101 a2):cP W0 110 [S s93] [] (N88 s1 r1 c1 fr1 fc1) []:=C9 hk Og (ss0 2 [] 0 [] [(N89 a0 a1 s101 a2,none),(N88 s1 r1 c1 fr1 fc1,none)] []) Ar<|gdC h1<|gdC h2 gdN
theorem pk15 (hk:Kn W0){s1 s101:Bz}{a0 a1 a2 a3 a4 a5 c1 r1:Int}{fc1 fr1:Bool}(h1:oC W0 38 [N12 s1 r1 c1 fr1 fc1]<|I true)(h2:oC W0 126 [S [84,97,98]]<|N53)(h3:oC W0 126 [S s101]<|N14 s1 r1 c1 fr1 fc1):cP W0 167 [N90 a0 a1 a2 a3 a4 s101 a5] [] (N91 s1 r1 c1 fr1 fc1) []:=C9 hk Oe (ss0 189 [(true,166),(true,15)] 56 [] [(N53,none),(N14 s1 r1 c1 fr1 fc1,none),(I true,none),(N53,none),(I true,none)] [0,2,0,0]) Ar<|gdE ((s1==s1)&&((r1==r1)&&((c1==c1)&&((fr1==fr1)&&((fc1==fc1)&&((false==false)&&true)))))) true<|gdC h1<|gdC h2<|gdE ((s1==s1)&&((r1==r1)&&((c1==c1)&&((fr1==fr1)&&((fc1==fc1)&&((false==false)&&true)))))) true<|gdC h1<|gdC h3<|gdC h2 gdN
theorem pt15 (hk:Kn W0){s1 s93 s101:Bz}{a0 a1 a2 a3 a4 a5 c1 r1:Int}{fc1 fr1:Bool}(h1:oC W0 167 [N90 a0 a1 a2 a3 a4 s101 a5]<|N91 s1 r1 c1 fr1 fc1)(h2:oC W0 166 [S s93]<|N92 a0 a1 a2 a3 a4 s101 a5):cP W0 110 [S s93] [] (N91 s1 r1 c1 fr1 fc1) []:=C9 hk Og (ss0 2 [] 0 [] [(N92 a0 a1 a2 a3 a4 s101 a5,none),(N91 s1 r1 c1 fr1 fc1,none)] []) Ar<|gdC h1<|gdC h2 gdN
end Go.Abs
namespace Go.Abs
open Go.Proofs Go.RowKit
set_option maxRecDepth 100000
variable {W0 : World}
theorem clK (hk:Kn W0){f:Nat}{args:List AVal}{v:AVal}(h:Kw [] 60 f args []=some (v,[]))(h1:A8 0 args=true)(h2:blw 0 v=true):cP W0 f args [] v []:=(Eq hk Dw h h1 h2).2.2
theorem rd0 (hk:Kn W0){p:Bz}{sp:Bz}{rp cp:Int}{frp fcp:Bool}(hp:Be W0 p sp rp cp frp fcp)(ha:asc (bd0 p)=true)(hl:N (bd0 p)≤200):cP W0 110 [S<|bd0 p] [] (N21 sp rp cp frp fcp) []:=pt0 hk (pk0 hk hp.right (Z0 hk).2.2 hp.rd)<|G5 (grK hk) (lx0 hk hp ha<|bI hl V) (λe=>by cases e) hl
theorem rd1 (hk:Kn W0){p q:Bz}{sp:Bz}{rp cp:Int}{frp fcp:Bool}(hp:Be W0 p sp rp cp frp fcp){sq:Bz}{rq cq:Int}{frq fcq:Bool}(hq:Be W0 q sq rq cq frq fcq)(ha:asc (bd1 p q)=true)(hl:N (bd1 p q)≤200):cP W0 110 [S<|bd1 p q] [] (N25 sp rp cp frp fcp sq rq cq frq fcq) []:=pt1 hk (pk1 hk hq.right hp.right hq.rd hp.rd)<|G5 (grK hk) (lx1 hk hp hq ha<|bI hl V) (λe=>by cases e) hl
theorem rd2 (hk:Kn W0){p u:Bz}{sp:Bz}{rp cp:Int}{frp fcp:Bool}(hp:Be W0 p sp rp cp frp fcp){ru cu:Int}{fru fcu:Bool}(hu:Be W0 u [] ru cu fru fcu)(ha:asc (bd2 p u)=true)(hl:N (bd2 p u)≤200):cP W0 110 [S<|bd2 p u] [] (N34 sp rp cp frp fcp ru cu fru fcu) []:=pt2 hk (pk2 hk hu.right hp.right hu.rd hp.rd)<|G5 (grK hk) (lx2 hk hp hu ha<|bI hl V) (λe=>by cases e) hl
theorem rd3 (hk:Kn W0){p q:Bz}{sp:Bz}{rp cp:Int}{frp fcp:Bool}(hp:Be W0 p sp rp cp frp fcp){sq:Bz}{rq cq:Int}{frq fcq:Bool}(hq:Be W0 q sq rq cq frq fcq)(ha:asc (bd3 p q)=true)(hl:N (bd3 p q)≤200):cP W0 110 [S<|bd3 p q] [] (N43 sp rp cp frp fcp sq rq cq frq fcq) []:=pt3 hk (pk3 hk hq.right hp.right (dgk1 hk).2.2 hq.rd (DS hk).2.2 hp.rd)<|G5 (grK hk) (lx3 hk hp hq ha<|bI hl V) (λe=>by cases e) hl
theorem rd4 (hk:Kn W0){p:Bz}{sp:Bz}{rp cp:Int}{frp fcp:Bool}(hp:Be W0 p sp rp cp frp fcp)(ha:asc (bd4 p)=true)(hl:N (bd4 p)≤200):cP W0 110 [S<|bd4 p] [] (N48 sp rp cp frp fcp) []:=pt4 hk (pk4 hk hp.right hp.rd (dgk9 hk).2.2 (dgk7 hk).2.2 (DS hk).2.2 (Z0 hk).2.2)<|G5 (grK hk) (lx4 hk hp ha<|bI hl V) (λe=>by cases e) hl
theorem rd5 (hk:Kn W0){p u:Bz}{sp:Bz}{rp cp:Int}{frp fcp:Bool}(hp:Be W0 p sp rp cp frp fcp){ru cu:Int}{fru fcu:Bool}(hu:Be W0 u [] ru cu fru fcu)(ha:asc (bd5 p u)=true)(hl:N (bd5 p u)≤200):cP W0 110 [S<|bd5 p u] [] (N51 sp rp cp frp fcp ru cu fru fcu) []:=pt5 hk (pk5 hk hu.right hp.right (DS hk).2.2 hu.rd hp.rd)<|G5 (grK hk) (lx5 hk hp hu ha<|bI hl V) (λe=>by cases e) hl
theorem rd6 (hk:Kn W0){p q:Bz}{sp:Bz}{rp cp:Int}{frp fcp:Bool}(hp:Be W0 p sp rp cp frp fcp){sq:Bz}{rq cq:Int}{frq fcq:Bool}(hq:Be W0 q sq rq cq frq fcq)(ha:asc (bd6 p q)=true)(hl:N (bd6 p q)≤200):cP W0 110 [S<|bd6 p q] [] (N58 sp rp cp frp fcp sq rq cq frq fcq) []:=pt6 hk (pk6 hk hq.right (nmk1 hk).2.2 hp.right hq.rd hp.rd)<|G5 (grK hk) (lx6 hk hp hq ha<|bI hl V) (λe=>by cases e) hl
theorem rd7 (hk:Kn W0){p:Bz}{sp:Bz}{rp cp:Int}{frp fcp:Bool}(hp:Be W0 p sp rp cp frp fcp)(ha:asc (bd7 p)=true)(hl:N (bd7 p)≤200):cP W0 110 [S<|bd7 p] [] (N65 sp rp cp frp fcp) []:=pt7 hk (pk7 hk hp.right (PV hk).2.2 (nmk2 hk).2.2 hp.rd (Z0 hk).2.2)<|G5 (grK hk) (lx7 hk hp ha<|bI hl V) (λe=>by cases e) hl
theorem rd8 (hk:Kn W0){p:Bz}{sp:Bz}{rp cp:Int}{frp fcp:Bool}(hp:Be W0 p sp rp cp frp fcp)(ha:asc (bd8 p)=true)(hl:N (bd8 p)≤200):cP W0 110 [S<|bd8 p] [] (N68 sp rp cp frp fcp) []:=pt8 hk (pk8 hk hp.right hp.rd)<|G5 (grK hk) (lx8 hk hp ha<|bI hl V) (λe=>by cases e) hl
theorem rd9 (hk:Kn W0){p:Bz}{sp:Bz}{rp cp:Int}{frp fcp:Bool}(hp:Be W0 p sp rp cp frp fcp)(ha:asc (bd9 p)=true)(hl:N (bd9 p)≤200):cP W0 110 [S<|bd9 p] [] (N71 sp rp cp frp fcp) []:=pt9 hk (pk9 hk hp.right hp.rd (Z0 hk).2.2)<|G5 (grK hk) (lx9 hk hp ha<|bI hl V) (λe=>by cases e) hl
theorem rd10 (hk:Kn W0){p:Bz}{sp:Bz}{rp cp:Int}{frp fcp:Bool}(hp:Be W0 p sp rp cp frp fcp)(ha:asc (Ys p)=true)(hl:N (Ys p)≤200):cP W0 110 [S<|Ys p] [] (N76 sp rp cp frp fcp) []:=pt10 hk (pk10 hk hp.right (cK hk) hp.rd<|cK hk)<|G5 (grK hk) (lx10 hk hp ha<|bI hl V) (λe=>by cases e) hl
theorem rd11 (hk:Kn W0){p:Bz}{sp:Bz}{rp cp:Int}{frp fcp:Bool}(hp:Be W0 p sp rp cp frp fcp)(ha:asc (X0 p)=true)(hl:N (X0 p)≤200):cP W0 110 [S<|X0 p] [] (N79 sp rp cp frp fcp) []:=pt11 hk (pk11 hk hp.right hp.rd)<|G5 (grK hk) (lx11 hk hp ha<|bI hl V) (λe=>by cases e) hl
theorem rd12 (hk:Kn W0){p q u:Bz}{sp:Bz}{rp cp:Int}{frp fcp:Bool}(hp:Be W0 p sp rp cp frp fcp){sq:Bz}{rq cq:Int}{frq fcq:Bool}(hq:Be W0 q sq rq cq frq fcq){ru cu:Int}{fru fcu:Bool}(hu:Be W0 u [] ru cu fru fcu)(ha:asc (Xo p q u)=true)(hl:N (Xo p q u)≤200):cP W0 110 [S<|Xo p q u] [] (N82 sp rp cp frp fcp ru cu fru fcu sq rq cq frq fcq) []:=pt12 hk (pk12 hk hq.right hu.right hp.right hq.rd hu.rd hp.rd)<|G5 (grK hk) (lx12 hk hp hq hu ha<|bI hl V) (λe=>by cases e) hl
theorem rd13 (hk:Kn W0){p:Bz}{sp:Bz}{rp cp:Int}{frp fcp:Bool}(hp:Be W0 p sp rp cp frp fcp)(ha:asc (Xe p)=true)(hl:N (Xe p)≤200):cP W0 110 [S<|Xe p] [] (N85 sp rp cp frp fcp) []:=pt13 hk (pk13 hk hp.right (nmk6 hk).2.2 hp.rd)<|G5 (grK hk) (lx13 hk hp ha<|bI hl V) (λe=>by cases e) hl
theorem rd14 (hk:Kn W0){p:Bz}{sp:Bz}{rp cp:Int}{frp fcp:Bool}(hp:Be W0 p sp rp cp frp fcp)(ha:asc (Xk p)=true)(hl:N (Xk p)≤200):cP W0 110 [S<|Xk p] [] (N88 sp rp cp frp fcp) []:=pt14 hk (pk14 hk hp.right (nmk7 hk).2.2 hp.rd)<|G5 (grK hk) (lx14 hk hp ha<|bI hl V) (λe=>by cases e) hl
theorem rd15 (hk:Kn W0){p:Bz}{sp:Bz}{rp cp:Int}{frp fcp:Bool}(hp:Be W0 p sp rp cp frp fcp)(ha:asc (Uj p)=true)(hl:N (Uj p)≤200):cP W0 110 [S<|Uj p] [] (N91 sp rp cp frp fcp) []:=pt15 hk (pk15 hk hp.right (nmk5 hk).2.2 hp.rd)<|G5 (grK hk) (lx15 hk hp ha<|bI hl V) (λe=>by cases e) hl
end Go.Abs
namespace Go.Abs
open Go.Proofs Go.RowKit
set_option maxRecDepth 100000
variable {W0 : World} {G : List (Nat × AVal)}
set_option maxHeartbeats 2000000
end Go.Abs
namespace Go.Abs
open Go.Proofs Go.RowKit
set_option maxRecDepth 100000
variable {W0 : World} {G : List (Nat × AVal)}
theorem Nn (hg:hGr W0 G){c:Int}{n:Nat}(h1':-9223372036854775808≤c)(h2':c≤9223372036854775807)(hn:0<n):cP W0 13 [J U c,J U (n:Nat)] [] (J U (Bt c n:Nat)) []:=by
 have hnn:(1:Int)≤(n:Nat)*(n:Nat):=by have:1*1≤n*n:=Nat.mul_le_mul hn hn;omega
 refine goA 13 13 ?_;refine sA<|lV Z<|ln<|sa<|sA<|lV Z ?_;refine lB Z Z O (λh1=>?_)<|λh1=>?_
 ·have hc:c<0:=by grind
  refine ln<|aT Z<|oA<|lV Z<|lKv (v:=J U<|c+1) Z Z (by simp_all[Ah]) (congrArg (J U)<|w64 Y Y)<|lKv (v:=J U<|-(c+1)) Z Z O (congrArg (J U) (by grind[w64]))<|lV Z<|ln<|sA<|lV Z<|lV Z<|lKv (v:=J U (Bt c n:Nat)) Z Z (by simp_all[Ah]) (congrArg (J U) (by grind[pkA]))<|lV Z<|ln ?_;exact gG<|A6 O Z Z Z
 ·have hc:¬c<0:=by grind
  refine ln<|aF Z<|kA<|sA<|lV Z<|lV Z<|lKv (v:=J U (Bt c n:Nat)) Z Z (by simp_all[Ah]) (congrArg (J U) (by grind[pkB]))<|lV Z<|ln ?_;exact gG<|A6 O Z Z Z
theorem Fg (hg:hGr W0 G){c:Int}{n:Nat}(h1:-9223372036854775808≤c)(h2:c≤9223372036854775807)(hn:0<n)(H:Hz):cP W0 13 [J U c,J U (n:Nat)] H (J U (Bt c n:Nat)) H:=hO Z Z (Nn hg h1 h2 hn) H
theorem areaP (hg:hGr W0 G){p u:Bz}{A0 A1 A2 B0 B1 B2 n r3 c3:Int}(hA:∀H,cP W0 35 [aG [J U A0,J U A1,J U A2],J U n,I false] H (S p) H)(h8:∀H,cP W0 13 [J U B0,J U 8] H (J U r3) H)(h5:∀H,cP W0 13 [J U B1,J U 5] H (J U c3) H)(hT:∀H,cP W0 67 [aG [S [],J U r3,J U c3,I false,I false,I false]] H (aU [S u,J U 0]) H)(hp:N p≤100)(hu:N u≤100):cP W0 36 [aG [J U A0,J U A1,J U A2],aG [J U B0,J U B1,J U B2],J U n] [] (S<|(p++[58])++u) []:=by refine goA 36 28 ?_;refine sA<|lV (v:=aP 0 0) Z<|lV (v:=aP 1 0) Z<|lV Z<|ln<|sA<|lV Z<|lV Z<|lC Z (hA _)<|lV Z<|ln<|sa ?_;refine ExA.draw hg ?_;refine Ao Z Z (by simp_all[Ah])<|qV Z<|Cd Z Z (h8 _)<|Ao Z Z (by simp_all[Ah])<|qV Z<|Cd Z Z (h5 _)<|qV Z<|Cd Z Z (hT _)<|qV Z<|qV Z<|qV Z<|qV Z<|qV Z<|Dx<|ExA.seq<|ExA.ops hg<|Aa Z Z O<|Aa Z Z bY6<|Aa Z Z O<|Aa Z Z bY6<|Aa Z Z O<|D7<|?_;exact gG<|A4 O Z Z 100 Z Z
end Go.Abs
namespace Go.Abs
open Go.Proofs Go.RowKit
set_option maxRecDepth 10000000
variable {W0 : World}
def Vx (f:Nat):Bool:=cond (aA f 13) true<|cond (aA f 14) true<|aA f 67
theorem pl00 (hk:Kn W0){s101:Bz}{a1 a2 a3 a4 a51 a52:Int}(h1:oC W0 67 [N0 a52 a51]<|aU [S s101,zI])(h2:oC W0 13 [jI a3,jI 3] zI)(h3:oC W0 13 [jI a3,jI 4] zI)(h4:oC W0 13 [jI a2,jI 5]<|jI a51)(h5:oC W0 13 [jI a1,jI 8]<|jI a52):cP W0 35 [N93 a1 a2 a3,jI a4,zB] [] (S s101) []:=C9 hk Vx (ss0 3 [] 5 [] [(jI a52,none),(jI a51,none),(zI,none),(zI,none),(zI,none),(aU [S s101,zI],none)] [1,1,2,1,2,1,2,2]) Ar<|gdC h1<|gdC h2<|gdC h3<|gdC h3<|gdC h4<|gdC h5 gdN
theorem pl01 (hk:Kn W0){s101:Bz}{a1 a2 a3 a4 a51 a52:Int}(h1:oC W0 67 [N0 a52 a51]<|aU [S s101,zI])(h2:oC W0 13 [jI a3,jI 3]<|jI 1)(h3:oC W0 13 [jI a3,jI 4] zI)(h4:oC W0 13 [jI a2,jI 5]<|jI a51)(h5:oC W0 13 [jI a1,jI 8]<|jI a52):cP W0 35 [N93 a1 a2 a3,jI a4,zB] [] (S s101) []:=C9 hk Vx (ss0 3 [] 5 [] [(jI a52,none),(jI a51,none),(zI,none),(zI,none),(jI 1,none),(aU [S s101,zI],none)] [1,1,2,1,2,1,2,2]) Ar<|gdC h1<|gdC h2<|gdC h3<|gdC h3<|gdC h4<|gdC h5 gdN
theorem pl02 (hk:Kn W0){s1 s101:Bz}{a1 a2 a3 a4 a50 a51 a52:Int}(h1:oC W0 67 [N94 s1 a52 a51]<|aU [S s101,zI])(h2:oC W0 14 [jI a50]<|S s1)(h3:oC W0 13 [jI a3,jI a4]<|jI a50)(h4:oC W0 13 [jI a3,jI 3]<|jI 2)(h5:oC W0 13 [jI a3,jI 4] zI)(h6:oC W0 13 [jI a2,jI 5]<|jI a51)(h7:oC W0 13 [jI a1,jI 8]<|jI a52):cP W0 35 [N93 a1 a2 a3,jI a4,zB] [] (S s101) []:=C9 hk Vx (ss0 3 [] 6 [] [(jI a52,none),(jI a51,none),(zI,none),(zI,none),(jI 2,none),(jI a50,none),(S s1,none),(aU [S s101,zI],none)] [1,1,2,1,2,1,2,2]) Ar<|gdC h1<|gdC h2<|gdC h3<|gdC h4<|gdC h5<|gdC h5<|gdC h6<|gdC h7 gdN
theorem pl10 (hk:Kn W0){s101:Bz}{a1 a2 a3 a4 a51 a52:Int}(h1:oC W0 67 [N1 a52 a51]<|aU [S s101,zI])(h2:oC W0 13 [jI a3,jI 3] zI)(h3:oC W0 13 [jI a3,jI 4]<|jI 1)(h4:oC W0 13 [jI a2,jI 5]<|jI a51)(h5:oC W0 13 [jI a1,jI 8]<|jI a52):cP W0 35 [N93 a1 a2 a3,jI a4,zB] [] (S s101) []:=C9 hk Vx (ss0 3 [] 5 [] [(jI a52,none),(jI a51,none),(jI 1,none),(jI 1,none),(zI,none),(aU [S s101,zI],none)] [1,1,2,1,2,1,2,2]) Ar<|gdC h1<|gdC h2<|gdC h3<|gdC h3<|gdC h4<|gdC h5 gdN
theorem pl11 (hk:Kn W0){s101:Bz}{a1 a2 a3 a4 a51 a52:Int}(h1:oC W0 67 [N1 a52 a51]<|aU [S s101,zI])(h2:oC W0 13 [jI a3,jI 3]<|jI 1)(h3:oC W0 13 [jI a3,jI 4]<|jI 1)(h4:oC W0 13 [jI a2,jI 5]<|jI a51)(h5:oC W0 13 [jI a1,jI 8]<|jI a52):cP W0 35 [N93 a1 a2 a3,jI a4,zB] [] (S s101) []:=C9 hk Vx (ss0 3 [] 5 [] [(jI a52,none),(jI a51,none),(jI 1,none),(jI 1,none),(jI 1,none),(aU [S s101,zI],none)] [1,1,2,1,2,1,2,2]) Ar<|gdC h1<|gdC h2<|gdC h3<|gdC h3<|gdC h4<|gdC h5 gdN
theorem pl12 (hk:Kn W0){s1 s101:Bz}{a1 a2 a3 a4 a50 a51 a52:Int}(h1:oC W0 67 [aG [S s1,jI a52,jI a51,I true,zB,zB]]<|aU [S s101,zI])(h2:oC W0 14 [jI a50]<|S s1)(h3:oC W0 13 [jI a3,jI a4]<|jI a50)(h4:oC W0 13 [jI a3,jI 3]<|jI 2)(h5:oC W0 13 [jI a3,jI 4]<|jI 1)(h6:oC W0 13 [jI a2,jI 5]<|jI a51)(h7:oC W0 13 [jI a1,jI 8]<|jI a52):cP W0 35 [N93 a1 a2 a3,jI a4,zB] [] (S s101) []:=C9 hk Vx (ss0 3 [] 6 [] [(jI a52,none),(jI a51,none),(jI 1,none),(jI 1,none),(jI 2,none),(jI a50,none),(S s1,none),(aU [S s101,zI],none)] [1,1,2,1,2,1,2,2]) Ar<|gdC h1<|gdC h2<|gdC h3<|gdC h4<|gdC h5<|gdC h5<|gdC h6<|gdC h7 gdN
theorem pl20 (hk:Kn W0){s101:Bz}{a1 a2 a3 a4 a51 a52:Int}(h1:oC W0 67 [N2 a52 a51]<|aU [S s101,zI])(h2:oC W0 13 [jI a3,jI 3] zI)(h3:oC W0 13 [jI a3,jI 4]<|jI 2)(h4:oC W0 13 [jI a2,jI 5]<|jI a51)(h5:oC W0 13 [jI a1,jI 8]<|jI a52):cP W0 35 [N93 a1 a2 a3,jI a4,zB] [] (S s101) []:=C9 hk Vx (ss0 3 [] 5 [] [(jI a52,none),(jI a51,none),(jI 2,none),(jI 2,none),(zI,none),(aU [S s101,zI],none)] [1,1,2,1,2,1,2,2]) Ar<|gdC h1<|gdC h2<|gdC h3<|gdC h3<|gdC h4<|gdC h5 gdN
theorem pl21 (hk:Kn W0){s101:Bz}{a1 a2 a3 a4 a51 a52:Int}(h1:oC W0 67 [N2 a52 a51]<|aU [S s101,zI])(h2:oC W0 13 [jI a3,jI 3]<|jI 1)(h3:oC W0 13 [jI a3,jI 4]<|jI 2)(h4:oC W0 13 [jI a2,jI 5]<|jI a51)(h5:oC W0 13 [jI a1,jI 8]<|jI a52):cP W0 35 [N93 a1 a2 a3,jI a4,zB] [] (S s101) []:=C9 hk Vx (ss0 3 [] 5 [] [(jI a52,none),(jI a51,none),(jI 2,none),(jI 2,none),(jI 1,none),(aU [S s101,zI],none)] [1,1,2,1,2,1,2,2]) Ar<|gdC h1<|gdC h2<|gdC h3<|gdC h3<|gdC h4<|gdC h5 gdN
theorem pl22 (hk:Kn W0){s1 s101:Bz}{a1 a2 a3 a4 a50 a51 a52:Int}(h1:oC W0 67 [aG [S s1,jI a52,jI a51,zB,I true,zB]]<|aU [S s101,zI])(h2:oC W0 14 [jI a50]<|S s1)(h3:oC W0 13 [jI a3,jI a4]<|jI a50)(h4:oC W0 13 [jI a3,jI 3]<|jI 2)(h5:oC W0 13 [jI a3,jI 4]<|jI 2)(h6:oC W0 13 [jI a2,jI 5]<|jI a51)(h7:oC W0 13 [jI a1,jI 8]<|jI a52):cP W0 35 [N93 a1 a2 a3,jI a4,zB] [] (S s101) []:=C9 hk Vx (ss0 3 [] 6 [] [(jI a52,none),(jI a51,none),(jI 2,none),(jI 2,none),(jI 2,none),(jI a50,none),(S s1,none),(aU [S s101,zI],none)] [1,1,2,1,2,1,2,2]) Ar<|gdC h1<|gdC h2<|gdC h3<|gdC h4<|gdC h5<|gdC h5<|gdC h6<|gdC h7 gdN
theorem pl30 (hk:Kn W0){s101:Bz}{a1 a2 a3 a4 a51 a52:Int}(h1:oC W0 67 [N0 a52 a51]<|aU [S s101,zI])(h2:oC W0 13 [jI a3,jI 3] zI)(h3:oC W0 13 [jI a3,jI 4]<|jI 3)(h4:oC W0 13 [jI a2,jI 5]<|jI a51)(h5:oC W0 13 [jI a1,jI 8]<|jI a52):cP W0 35 [N93 a1 a2 a3,jI a4,zB] [] (S s101) []:=C9 hk Vx (ss0 3 [] 5 [] [(jI a52,none),(jI a51,none),(jI 3,none),(jI 3,none),(zI,none),(aU [S s101,zI],none)] [1,1,2,1,2,1,2,2]) Ar<|gdC h1<|gdC h2<|gdC h3<|gdC h3<|gdC h4<|gdC h5 gdN
theorem pl31 (hk:Kn W0){s101:Bz}{a1 a2 a3 a4 a51 a52:Int}(h1:oC W0 67 [N0 a52 a51]<|aU [S s101,zI])(h2:oC W0 13 [jI a3,jI 3]<|jI 1)(h3:oC W0 13 [jI a3,jI 4]<|jI 3)(h4:oC W0 13 [jI a2,jI 5]<|jI a51)(h5:oC W0 13 [jI a1,jI 8]<|jI a52):cP W0 35 [N93 a1 a2 a3,jI a4,zB] [] (S s101) []:=C9 hk Vx (ss0 3 [] 5 [] [(jI a52,none),(jI a51,none),(jI 3,none),(jI 3,none),(jI 1,none),(aU [S s101,zI],none)] [1,1,2,1,2,1,2,2]) Ar<|gdC h1<|gdC h2<|gdC h3<|gdC h3<|gdC h4<|gdC h5 gdN
theorem pl32 (hk:Kn W0){s1 s101:Bz}{a1 a2 a3 a4 a50 a51 a52:Int}(h1:oC W0 67 [N94 s1 a52 a51]<|aU [S s101,zI])(h2:oC W0 14 [jI a50]<|S s1)(h3:oC W0 13 [jI a3,jI a4]<|jI a50)(h4:oC W0 13 [jI a3,jI 3]<|jI 2)(h5:oC W0 13 [jI a3,jI 4]<|jI 3)(h6:oC W0 13 [jI a2,jI 5]<|jI a51)(h7:oC W0 13 [jI a1,jI 8]<|jI a52):cP W0 35 [N93 a1 a2 a3,jI a4,zB] [] (S s101) []:=C9 hk Vx (ss0 3 [] 6 [] [(jI a52,none),(jI a51,none),(jI 3,none),(jI 3,none),(jI 2,none),(jI a50,none),(S s1,none),(aU [S s101,zI],none)] [1,1,2,1,2,1,2,2]) Ar<|gdC h1<|gdC h2<|gdC h3<|gdC h4<|gdC h5<|gdC h5<|gdC h6<|gdC h7 gdN
def opqK (f:Nat):Bool:=aA f 13
theorem ti0 (hk:Kn W0){a1:Int}(h1:oC W0 13 [jI a1,jI 3] zI):cP W0 14 [jI a1] [] (S [83]) []:=C9 hk opqK (ss0 0 [] 1 [] [(zI,none)] []) Ar<|gdC h1 gdN
theorem ti1 (hk:Kn W0){a1:Int}(h1:oC W0 13 [jI a1,jI 3]<|jI 1):cP W0 14 [jI a1] [] (S [84,119,111,32,120]) []:=C9 hk opqK (ss0 0 [] 1 [] [(jI 1,none)] []) Ar<|gdC h1 gdN
theorem ti2 (hk:Kn W0){a1:Int}(h1:oC W0 13 [jI a1,jI 3]<|jI 2):cP W0 14 [jI a1] [] (S [116,104,105,114,100]) []:=C9 hk opqK (ss0 0 [] 1 [] [(jI 2,none)] []) Ar<|gdC h1 gdN
end Go.Abs
namespace Go.Abs
open Go.Proofs Go.RowKit
set_option maxRecDepth 100000
variable {W0 : World}
def Ow (s:Bz):Prop:=s=[83]∨s=[84,119,111,32,120]∨s=[116,104,105,114,100]
def Sh (s:Bz):Prop:=s=[]∨Ow s
def ttl :Nat→Bz
 |0=>[83]|1=>[84,119,111,32,120]|_=>[116,104,105,114,100]
theorem Jd (m:Nat):Ow (ttl m):=by match m with|0=>exact .inl rfl|1=>exact .inr (.inl rfl)|_+2=>exact .inr<|.inr rfl
theorem Zz {m n:Nat}(h:m<n):Bt ((m:Nat):Int) n=m:=by simp_all[Bt,if_neg,Nat.mod_eq_of_lt]
theorem SW (hk:Kn W0){a:Int}(ha:i64 a):cP W0 14 [J U a] [] (S<|ttl<|Bt a 3) []:=by
 have hg:=grK hk;have h3:=C6 (c:=a) (n:=3) V;have c:=Nn hg (c:=a) (n:=3) ha.1 ha.2 V;have:Bt a 3=0∨Bt a 3=1∨Bt a 3=2:=Y;rcases this with h|h|h;·rw[h]at c⊢;exact ti0 hk c
 ·rw[h]at c⊢;exact ti1 hk c
 ·rw[h]at c⊢;exact ti2 hk c
structure Pl (W0:World)(A0 A1 A2 n:Int)(p sh:Bz)(rw cl:Int)(fr fc:Bool):Prop where
 c:cP W0 35 [aG [J U A0,J U A1,J U A2],J U n,I false] [] (S p) []
 r:Be W0 p sh rw cl fr fc
 s:Sh sh
theorem SZ (hk:Kn W0){A0 A1 A2:Int}{n:Nat}(h0:i64 A0)(h1:i64 A1)(h2:i64 A2)(hn:1≤n∧n≤3):∃p sh rw cl fr fc,Pl W0 A0 A1 A2 (n:Nat) p sh rw cl fr fc:=by
 have hg:=grK hk;have c8:=Nn hg (c:=A0) (n:=8) h0.1 h0.2 V;have c5:=Nn hg (c:=A1) (n:=5) h1.1 h1.2 V;have c4:=Nn hg (c:=A2) (n:=4) h2.1 h2.2 V;have c3:=Nn hg (c:=A2) (n:=3) h2.1 h2.2 V;have cn:=Nn hg (c:=A2) (n:=n) h2.1 h2.2 Y;have l8:=C6 (c:=A0) (n:=8) V;have l5:=C6 (c:=A1) (n:=5) V;have l4:=C6 (c:=A2) (n:=4) V;have l3:=C6 (c:=A2) (n:=3) V;have ln:=C6 (c:=A2) (n:=n) Y;have ht:=SW hk (a:=((Bt A2 n:Nat):Int)) ⟨Y,Y⟩;rw[Zz Y]at ht;generalize Bt A2 n=ms at ln cn ht;have e4:Bt A2 4=0∨Bt A2 4=1∨Bt A2 4=2∨Bt A2 4=3:=Y;have e3:Bt A2 3=0∨Bt A2 3=1∨Bt A2 3=2:=Y;have em:ms=0∨ms=1∨ms=2:=Y;rcases e4 with e4|e4|e4|e4<;>rw[e4]at c4<;>rcases e3 with e3|e3|e3<;>rw[e3]at c3;·exact⟨_,_,_,_,_,_,pl00 hk (UG hk l5 l8) c3 c4 c5 c8,NI hk l5 l8,.inl Z⟩
 ·exact⟨_,_,_,_,_,_,pl01 hk (UG hk l5 l8) c3 c4 c5 c8,NI hk l5 l8,.inl Z⟩
 ·rcases em with rfl|rfl|rfl;·exact⟨_,_,_,_,_,_,pl02 hk (tx10 hk l5 l8) ht cn c3 c4 c5 c8,rf10 hk l5 l8,.inr<|Jd 0⟩
  ·exact⟨_,_,_,_,_,_,pl02 hk (tx20 hk l5 l8) ht cn c3 c4 c5 c8,rf20 hk l5 l8,.inr<|Jd 1⟩
  ·exact⟨_,_,_,_,_,_,pl02 hk (tx30 hk l5 l8) ht cn c3 c4 c5 c8,rf30 hk l5 l8,.inr<|Jd 2⟩
 ·exact⟨_,_,_,_,_,_,pl10 hk (tx01 hk l5 l8) c3 c4 c5 c8,rf01 hk l5 l8,.inl Z⟩
 ·exact⟨_,_,_,_,_,_,pl11 hk (tx01 hk l5 l8) c3 c4 c5 c8,rf01 hk l5 l8,.inl Z⟩
 ·rcases em with rfl|rfl|rfl;·exact⟨_,_,_,_,_,_,pl12 hk (tx11 hk l5 l8) ht cn c3 c4 c5 c8,rf11 hk l5 l8,.inr<|Jd 0⟩
  ·exact⟨_,_,_,_,_,_,pl12 hk (tx21 hk l5 l8) ht cn c3 c4 c5 c8,rf21 hk l5 l8,.inr<|Jd 1⟩
  ·exact⟨_,_,_,_,_,_,pl12 hk (tx31 hk l5 l8) ht cn c3 c4 c5 c8,rf31 hk l5 l8,.inr<|Jd 2⟩
 ·exact⟨_,_,_,_,_,_,pl20 hk (tx02 hk l5 l8) c3 c4 c5 c8,rf02 hk l5 l8,.inl Z⟩
 ·exact⟨_,_,_,_,_,_,pl21 hk (tx02 hk l5 l8) c3 c4 c5 c8,rf02 hk l5 l8,.inl Z⟩
 ·rcases em with rfl|rfl|rfl;·exact⟨_,_,_,_,_,_,pl22 hk (tx12 hk l5 l8) ht cn c3 c4 c5 c8,rf12 hk l5 l8,.inr<|Jd 0⟩
  ·exact⟨_,_,_,_,_,_,pl22 hk (tx22 hk l5 l8) ht cn c3 c4 c5 c8,rf22 hk l5 l8,.inr<|Jd 1⟩
  ·exact⟨_,_,_,_,_,_,pl22 hk (tx32 hk l5 l8) ht cn c3 c4 c5 c8,rf32 hk l5 l8,.inr<|Jd 2⟩
 ·exact⟨_,_,_,_,_,_,pl30 hk (UG hk l5 l8) c3 c4 c5 c8,NI hk l5 l8,.inl Z⟩
 ·exact⟨_,_,_,_,_,_,pl31 hk (UG hk l5 l8) c3 c4 c5 c8,NI hk l5 l8,.inl Z⟩
 ·rcases em with rfl|rfl|rfl;·exact⟨_,_,_,_,_,_,pl32 hk (tx10 hk l5 l8) ht cn c3 c4 c5 c8,rf10 hk l5 l8,.inr<|Jd 0⟩
  ·exact⟨_,_,_,_,_,_,pl32 hk (tx20 hk l5 l8) ht cn c3 c4 c5 c8,rf20 hk l5 l8,.inr<|Jd 1⟩
  ·exact⟨_,_,_,_,_,_,pl32 hk (tx30 hk l5 l8) ht cn c3 c4 c5 c8,rf30 hk l5 l8,.inr<|Jd 2⟩
end Go.Abs
namespace Go.Abs
open Go.Proofs Go.RowKit
set_option maxRecDepth 10000000
variable {W0 : World}
theorem pk16 (hk:Kn W0){s1 s101:Bz}{a0 c1 r1:Int}{fc1 fr1:Bool}(h1:oC W0 38 [N12 s1 r1 c1 fr1 fc1]<|I true)(h2:oC W0 126 [S s101]<|N14 s1 r1 c1 fr1 fc1):cP W0 167 [N95 s101 a0] [] (N96 s1 r1 c1 fr1 fc1) []:=C9 hk Oe (ss0 29 [(true,17),(true,14)] 8 [] [(N14 s1 r1 c1 fr1 fc1,none),(I true,none),(I true,none)] []) Ar<|gdE ((s1==s1)&&((r1==r1)&&((c1==c1)&&((fr1==fr1)&&((fc1==fc1)&&((false==false)&&true)))))) true<|gdC h1<|gdE ((s1==s1)&&((r1==r1)&&((c1==c1)&&((fr1==fr1)&&((fc1==fc1)&&((false==false)&&true)))))) true<|gdC h1<|gdC h2 gdN
theorem pt16 (hk:Kn W0){s1 s93 s101:Bz}{a0 c1 r1:Int}{fc1 fr1:Bool}(h1:oC W0 167 [N95 s101 a0]<|N96 s1 r1 c1 fr1 fc1)(h2:oC W0 166 [S s93]<|N97 s101 a0):cP W0 110 [S s93] [] (N96 s1 r1 c1 fr1 fc1) []:=C9 hk Og (ss0 2 [] 0 [] [(N97 s101 a0,none),(N96 s1 r1 c1 fr1 fc1,none)] []) Ar<|gdC h1<|gdC h2 gdN
end Go.Abs
namespace Go.Abs
open Go.Proofs Go.RowKit
set_option maxRecDepth 100000
variable {W0 : World}
def Uu (p:Bz):Bz:=(p++[])
theorem lx16 (hk:Kn W0){p:Bz}{sp:Bz}{rp cp:Int}{frp fcp:Bool}(hp:Be W0 p sp rp cp frp fcp)(ha:asc (Uu p)=true)(hl:N (Uu p)≤1000000):Lx W0 (Uu p) 0 [⟨5,p,0⟩]:=by have a0:=At.zero ha hl;have a1:=At.step (w:=p) a0;exact Fp hp.lex hp.len hp.h32 a0 Z<|Lx.end a1
theorem rd16 (hk:Kn W0){p:Bz}{sp:Bz}{rp cp:Int}{frp fcp:Bool}(hp:Be W0 p sp rp cp frp fcp)(ha:asc (Uu p)=true)(hl:N (Uu p)≤200):cP W0 110 [S<|Uu p] [] (aU [aG [J U 5,S [],J U 0,J U 0,I false,J U 0,S sp,J U rp,J U cp,I frp,I fcp,I false,S [],J U 0,J U 0,I false,I false,I false,J U 0,aN],J U 0,J U 0]) []:=(pt16 hk (pk16 hk hp.right hp.rd)<|G5 (grK hk) (lx16 hk hp ha<|bI hl V) (λe=>by cases e) hl)
structure DK (c:RC):Prop where
 sn:i64 c.sn
 rw:i64 c.rw
 cl:i64 c.cl
 kd:i64 c.kd
 a0:i64 c.a0
 a1:i64 c.a1
 a2:i64 c.a2
 b0:i64 c.b0
 b1:i64 c.b1
 b2:i64 c.b2
 vk:i64 c.vk
 vm:i64 c.vm
 ve:i64 c.ve
def Qm (W0:World)(t:Bz):Prop:=N t≤200∧∃u l,t=61::u∧N l=20∧l.all fW=true∧A8 0 l=true∧cP W0 110 [S u] [] (aU [aG l,J U 0,J U 0]) []
theorem gF {t u:Bz}{l:List AVal}(h:t=61::u)(hu:N u≤199)(hr:cP W0 110 [S u] [] (aU [aG l,J U 0,J U 0]) [])(h1:N l=20)(h2:l.all fW=true)(h3:A8 0 l=true):Qm W0 t:=⟨by grind,u,l,h,h1,h2,h3,hr⟩
theorem FR (hk:Kn W0){c:RC}(hc:DK c){n:Nat}(hn:1≤n∧n≤3)(nb tb:Bool):∃t,cP W0 17 [rcV c,J U (n:Nat),I nb,I tb] [] (S t) []∧Qm W0 t:=by
 have hg:=grK hk;obtain⟨p,sp,rp,cp,frp,fcp,hp⟩:=SZ hk hc.a0 hc.a1 hc.a2 hn;obtain⟨q,sq,rq,cq,frq,fcq,hq⟩:=SZ hk hc.b0 hc.b1 hc.b2 hn;have l8:=C6 (c:=c.b0) (n:=8) V;have l5:=C6 (c:=c.b1) (n:=5) V;have b8:=λH=>Fg hg (c:=c.b0) (n:=8) hc.b0.1 hc.b0.2 V H;have b5:=λH=>Fg hg (c:=c.b1) (n:=5) hc.b1.1 hc.b1.2 V H;have hu:=NI hk l5 l8;have tu:=UG hk l5 l8;have hpl:=hp.r.short;have hql:=hq.r.short;have hul:=hu.short;have hA:=λH=>hO Z Z hp.c H;have hB:=λH=>hO Z Z hq.c H;have hT:=λH=>hO Z Z tu H;have har:=areaP hg (B2:=c.b2) (n:=(n:Nat)) hA b8 b5 hT Y Y;have hC:=λH=>hO Z Z har H;generalize hug:[cB<|Bt c.b1 5,dB<|Bt c.b0 8]=u at*;have k16:=C6 (c:=c.kd) (n:=16) V;have hP:=λH=>Fg hg (c:=c.kd) (n:=16) hc.kd.1 hc.kd.2 V H;have ap:=hp.r.asc;have aq:=hq.r.asc;have au:=hu.asc;have hal:N ((p++[58])++u)≤100:=by grind
 refine⟨_,fmW hg hA hB hC k16 hP Y Y hal nb tb,?_⟩;generalize Bt c.kd 16=k at k16;have g0:=λ(t:Bz) (h:t=61::bd0 p)=>gF (W0:=W0) h (by grind[bd0]) (rd0 hk hp.r (by simp_all[bd0,asc]) (by grind[bd0])) Z Z Z;have g1:=λ(t:Bz) (h:t=61::bd1 p q)=>gF (W0:=W0) h (by grind[bd1]) (rd1 hk hp.r hq.r (by simp_all[bd1,asc]) (by grind[bd1])) Z Z Z;have g2:=λ(t:Bz) (h:t=61::bd2 p u)=>gF (W0:=W0) h (by grind[bd2]) (rd2 hk hp.r hu (by simp_all[bd2,asc]) (by grind[bd2])) Z Z Z;have g3:=λ(t:Bz) (h:t=61::bd3 p q)=>gF (W0:=W0) h (by grind[bd3]) (rd3 hk hp.r hq.r (by simp_all[bd3,asc]) (by grind[bd3])) Z Z Z;have g4:=λ(t:Bz) (h:t=61::bd4 p)=>gF (W0:=W0) h (by grind[bd4,jB]) (rd4 hk hp.r (by simp_all[bd4,asc]) (by grind[bd4,jB])) Z Z Z;have g5:=λ(t:Bz) (h:t=61::bd5 p u)=>gF (W0:=W0) h (by grind[bd5]) (rd5 hk hp.r hu (by simp_all[bd5,asc]) (by grind[bd5])) Z Z Z;have g6:=λ(t:Bz) (h:t=61::bd6 p q)=>gF (W0:=W0) h (by grind[bd6,jB]) (rd6 hk hp.r hq.r (by simp_all[bd6,asc]) (by grind[bd6,jB])) Z Z Z;have g7:=λ(t:Bz) (h:t=61::bd7 p)=>gF (W0:=W0) h (by grind[bd7,jB]) (rd7 hk hp.r (by simp_all[bd7,asc]) (by grind[bd7,jB])) Z Z Z;have g8:=λ(t:Bz) (h:t=61::bd8 p)=>gF (W0:=W0) h (by grind[bd8]) (rd8 hk hp.r (by simp_all[bd8,asc]) (by grind[bd8])) Z Z Z;have g9:=λ(t:Bz) (h:t=61::bd9 p)=>gF (W0:=W0) h (by grind[bd9]) (rd9 hk hp.r (by simp_all[bd9,asc]) (by grind[bd9])) Z Z Z;have g10:=λ(t:Bz) (h:t=61::Ys p)=>gF (W0:=W0) h (by grind[Ys]) (rd10 hk hp.r (by simp_all[Ys,asc]) (by grind[Ys])) Z Z Z;have g11:=λ(t:Bz) (h:t=61::X0 p)=>gF (W0:=W0) h (by grind[X0]) (rd11 hk hp.r (by simp_all[X0,asc]) (by grind[X0])) Z Z Z;have g12:=λ(t:Bz) (h:t=61::Xo p q u)=>gF (W0:=W0) h (by grind[Xo]) (rd12 hk hp.r hq.r hu (by simp_all[Xo,asc]) (by grind[Xo])) Z Z Z;have g13:=λ(t:Bz) (h:t=61::Xe p)=>gF (W0:=W0) h (by grind[Xe]) (rd13 hk hp.r (by simp_all[Xe,asc]) (by grind[Xe])) Z Z Z;have g14:=λ(t:Bz) (h:t=61::Xk p)=>gF (W0:=W0) h (by grind[Xk]) (rd14 hk hp.r (by simp_all[Xk,asc]) (by grind[Xk])) Z Z Z;have g15:=λ(t:Bz) (h:t=61::Uj p)=>gF (W0:=W0) h (by grind[Uj,jB]) (rd15 hk hp.r (by simp_all[Uj,asc]) (by grind[Uj,jB])) Z Z Z;have g16:=λ(t:Bz) (h:t=61::Uu p)=>gF (W0:=W0) h (by grind[Uu]) (rd16 hk hp.r (by grind[Uu]) (by grind[Uu])) Z Z Z
 match k,k16 with
 |0,_=>grind[fmS,bd0]|1,_=>grind[fmS,bd1]|2,_=>grind[fmS,bd2]|3,_=>grind[fmS,bd3]|4,_=>simp_all[fmS,bd4]|5,_=>grind[fmS,bd5]|6,_=>simp_all[fmS,bd6]|7,_=>simp_all[fmS,bd7]|8,_=>grind[fmS,bd8]|9,_=>grind[fmS,bd9]|10,_=>grind[fmS,Ys]|11,_=>grind[fmS,X0]|12,_=>simp_all[fmS,Xo]
 |13,_=>cases nb with
  |true=>exact g13 _ (by simp[fmS,Xe])
  |false=>cases tb with
   |true=>exact g15 _ (by simp[fmS,Uj])|false=>exact g16 _ (by simp[fmS,Uu])
 |14,_=>cases nb with
  |true=>exact g14 _ (by simp[fmS,Xk])
  |false=>cases tb with
   |true=>exact g15 _ (by simp[fmS,Uj])|false=>exact g16 _ (by simp[fmS,Uu])
 |15,_=>cases tb with
  |true=>exact g15 _ (by simp[fmS,Uj])|false=>exact g16 _ (by simp[fmS,Uu])
 |_+16,h=>omega
end Go.Abs
namespace Go.Abs
open Go.RowKit
set_option maxRecDepth 100000
variable {G : List (Nat × AVal)}
section
variable {α : Type} {f : α → AVal} {l : List α} {d : α} {s : St}
theorem Dn {x i:AOpd}{k n:Nat}(hx:ev G s x=some (aR k<|l.map f))(hi:ev G s i=some (J U n))(hk:bK 1 k=true)(hlt:n<N l):aop G s (.idxSl k x i)=some (.val (aE (f<|l.getD n d) 0) s.H [(0,(n:Nat)),((n:Nat)+1,(N l:Nat))]):=by
 have h1:(l.map f).getD n .nilIf=f (l.getD n d):=by grind
 simp only[aop,hx,hi,Int.toNat_natCast,h1,hk,fY,Bool.and_self,cond_true,List.length_map]
theorem Hy {x:AOpd}{k:Nat}(hx:ev G s x=some (aR k<|l.map f)):aop G s (.len false x)=some (.val (J U<|N l) s.H []):=by grind[aop,NZ]
end
theorem Ji {H:Hz}{n id off:Nat}(h:id<n):FzV H n (aP id off) (aP id off):=.inl ⟨1,TG⟩
theorem fvHx {H:Hz}{n k id off len:Nat}{c:Option Nat}(h:id<n):FzV H n (aH k id off len c) (aH k id off len c):=.inl ⟨1,TG⟩
structure PCl where
 r:Nat
 c:Nat
 s:Bz
structure PSh where
 nm:Bz
 cs:List PCl
def pc0 :PCl:=⟨0,0,[]⟩
def ps0 :PSh:=⟨[],[]⟩
def ahd (a b:PCl):Prop:=a.r<b.r∨a.r=b.r∧a.c<b.c
def D2 (r c:Nat):List PCl→Nat
 | []=>0|x::l=>if x.r<r∨x.r=r∧x.c<c then D2 r c l+1 else 0
def M4 (l:List PCl)(r c:Nat)(s:Bz):List PCl:=l.take (D2 r c l)++⟨r,c,s⟩::l.drop (if(∃x,l[D2 r c l]?=some x∧x.r=r∧x.c=c)then D2 r c l+1 else D2 r c l)
theorem W7 (r c:Nat):∀l,D2 r c l≤N l
 | []=>bC _
 |x::l=>by
  simp only[D2];split;·have:=W7 r c l;simp;omega
  omega
theorem CX (r c:Nat):∀(l:List PCl) (i:Nat) (x:PCl),i<D2 r c l→l[i]?=some x→x.r<r∨x.r=r∧x.c<c
 | [],_,_,h,_=>by grind
 |y::l,i,x,h,hx=>by
  simp only[D2]at h;split at h;·rename_i hy;cases i with|zero=>simp at hx;subst hx;exact hy|succ i=>exact CX r c l i x Y (by grind)
  ·omega
theorem BN (r c:Nat):∀(l:List PCl) (x:PCl),l[D2 r c l]?=some x→¬(x.r<r∨x.r=r∧x.c<c)
 | [],x,h=>Tf
 |y::l,x,h=>by
  simp only[D2]at h;split at h;·exact BN r c l x (by grind)
  grind
theorem PE (l:List PCl)(r c:Nat)(s:Bz):N (M4 l r c s)≤N l+1:=by have:=W7 r c l;unfold M4;split<;>simp<;>omega
theorem OU {p:PCl→Prop}{l:List PCl}{r c:Nat}{s:Bz}(h:∀x∈l,p x)(hn:p ⟨r,c,s⟩):∀x∈M4 l r c s,p x:=by grind[M4]
theorem putC_pw {l:List PCl}{r c:Nat}{s:Bz}(h:l.Pairwise ahd):(M4 l r c s).Pairwise ahd:=by
 unfold M4;rw[List.pairwise_append,List.pairwise_cons];have hd:∀k x,x∈l.drop k→∃i,k≤i∧l[i]?=some x:=λk x hx=>by grind[jM]
 have ht:∀k x,x∈l.take k→∃i,i<k∧l[i]?=some x:=λk x hx=>by grind[jM]
 have hp:∀(i j:Nat) (x y:PCl),i<j→l[i]?=some x→l[j]?=some y→ahd x y:=λi j x y hij hx hy=>by grind[List.pairwise_iff_getElem]
 have hge:∀(i:Nat) (y:PCl),D2 r c l≤i→l[i]?=some y→(i=D2 r c l→¬(y.r=r∧y.c=c))→ahd ⟨r,c,s⟩ y:=λi y hi hy hne=>by have hl:=(List.getElem?_eq_some_iff.1 hy).1;have h0:l[D2 r c l]?=some (l[D2 r c l]'(Y)):=gGe Y;have h1:=BN r c l _ h0;grind[ahd]
 refine⟨h.sublist<|List.take_sublist _ _,⟨λy hy=>?_,h.sublist<|List.drop_sublist _ _⟩,λx hx y hy=>?_⟩;·split at hy;all_goals grind
 ·obtain⟨i,h1,h2⟩:=ht _ _ hx;have h3:=CX r c l i x h1 h2;rcases List.mem_cons.1 hy with rfl|hy;·exact h3
  ·have:∃j,D2 r c l≤j∧l[j]?=some y:=by
    split at hy;·obtain⟨j,q1,q2⟩:=hd _ _ hy;grind
    simp_all
   grind
def Ef (l:List PSh):Nat:=(l.map λs=>N s.cs).sum
structure MW (p:PCl→Prop)(nms:List Bz)(shs:List PSh):Prop where
 nm:shs.map (·.nm)=nms
 pw:∀s∈shs,s.cs.Pairwise ahd
 ok:∀s∈shs,∀x∈s.cs,p x
theorem MW.len {p:PCl→Prop}{nms:List Bz}{shs:List PSh}(h:MW p nms shs):N shs=N nms:=by rw[←h.nm,List.length_map]
def putS (shs:List PSh)(k r c:Nat)(s:Bz):List PSh:=shs.set k ⟨(shs.getD k ps0).nm,M4 (shs.getD k ps0).cs r c s⟩
theorem set_get {α:Type}{d:α}:∀{l:List α}{k:Nat},k<N l→l.set k (l.getD k d)=l
 | [],_,h=>Tf|a::l,0,_=>B4|a::l,k+1,h=>by simp_all
theorem C5 {α:Type}{d:α}{l:List α}{k:Nat}(h:k<N l):l.getD k d∈l:=by grind
theorem MW.put {p:PCl→Prop}{nms:List Bz}{shs:List PSh}(h:MW p nms shs){k r c:Nat}{s:Bz}(hk:k<N shs)(hn:p ⟨r,c,s⟩):MW p nms (putS shs k r c s):=by
 have hm:=C5 (d:=ps0) hk;refine⟨?_,λx hx=>?_,λx hx=>?_⟩;·grind[putS,List.map_set,nm,set_get]
 ·rcases jF hx with hx|rfl;·exact h.pw x hx
  ·exact putC_pw<|h.pw _ hm
 ·rcases jF hx with hx|rfl;·exact h.ok x hx
  ·exact OU (h.ok _ hm) hn
theorem Zf :∀{shs:List PSh}{k:Nat}{x:PSh},k<N shs→N x.cs≤(shs.getD k ps0).cs.length+1→Ef (shs.set k x)≤Ef shs+1
 | [],_,_,h,_=>Tf|a::l,0,x,_,h=>by grind[Ef]|a::l,k+1,x,hk,h=>by have:=Zf (shs:=l) (k:=k) (x:=x) (by grind) (by grind);grind[Ef]
theorem OB {shs:List PSh}{k r c:Nat}{s:Bz}(hk:k<N shs):Ef (putS shs k r c s)≤Ef shs+1:=Zf hk<|PE _ _ _ _
def pcV (c:PCl):AVal:=aG [J U c.r,J U c.c,S c.s]
def psV (s:PSh):AVal:=aG [S s.nm,aR 3<|s.cs.map pcV]
theorem B8 {n:Nat}:∀(l:List PCl),A8 n (l.map pcV)=true
 | []=>rfl|_::l=>by simp only[List.map_cons,A8,pcV,blw,cond_true];exact B8 l
theorem Av {n:Nat}:∀(l:List PSh),A8 n (l.map psV)=true
 | []=>rfl|_::l=>by simp only[List.map_cons,A8,psV,blw,cond_true,B8];exact Av l
end Go.Abs
namespace Go.Abs
open Go.Proofs Go.RowKit
set_option maxRecDepth 100000
variable {W0 : World} {G : List (Nat × AVal)}
theorem mm0 {j:Nat}:J U (cond (cond true (decide<|((j:Nat):Int)<0)<|decide<|(0:Int)<((j:Nat):Int)) 0 ((j:Nat):Int))=J U j:=by grind
theorem restQ (hg:hGr W0 G){H:Hz}{id T:Nat}{b m:Bool}{l:List Int}(ho:H[id]?=some (C T (nb b l m) false))(hl:N l=96){j:Nat}(hj:j<96):I8 gH W0 229 [aP id 0,J U (j+1:Nat)] H (λv X=>X=H∧∃r:Int,v=J U r):=by
 refine goQ 229 53 ?_;refine iO<|iM hg<|Ac hg gN Z Z O<|Bg<|iO<|iM hg<|Ac hg gN Z Z O<|Ac hg gN (v:=aP id 0) (Im Z ho) Z O<|Ac hg gN (v:=aP id 97) (Gv Z ho) Z O<|Ac hg gN (v:=I m) (loadNm Z ho hl) Z O<|Ac hg gN Z Z O<|Bg<|iO<|iO<|iM hg<|Ac hg gN Z Z O<|mKv hg gN (v:=J U j) Z Z O (Bw Y Y Y)<|mKv hg gN (v:=J U j) Z Z O mm0<|Ac hg gN Z Z O<|Bg<|jK ?_;refine ExM.loopJ (σ:=Nat×Bool) (τ:=Bool) (λ⟨i,mo⟩=>⟨.al [(0,aP id 0),(1,J U (j+1:Nat)),(5,I mo),(14,J U j),(15,J U i)],H,53⟩) (λ⟨i,mo⟩=>i≤j) (λ⟨i,mo⟩=>j-i) ⟨0,m⟩ 0 (λmo=>⟨.al [(0,aP id 0),(1,J U (j+1:Nat)),(5,I mo)],H,53⟩) (λmo=>True) (Ap Z Z<|sb4 Z Z Z Z<|(((sbC Z<|sbN)))) (hZ _) ?_ ?_
 ·rintro⟨i,mo⟩ hi;have hi:i≤j:=hi;refine sO ?_;cases mo
  ·refine mB hg gN Z Z O (λh1=>?_) (λh1=>?_)
   ·have hlt:i<j:=by grind
    refine mn<|sq<|cT Z<|kM<|sq<|bM<|sO<|x2 Z Z<|oM<|m4 Z Z Z Z<|mV (v:=aP id 0) (Im Z ho)<|mV (v:=aP id 1) (Gv Z ho)<|Ac hg (gS Z) (v:=aP id<|1+i) (W1 Z Z ho) Z GQ<|mV (v:=J z8<|l.getD i 0) (Wq Z ho Y)<|x3 Z Z Z<|oM<|mI ((i+1:Nat):Int) Z<|x1 Z ?_;exact⟨⟨i+1,_⟩,(Y:i+1≤j),(by grind),Ap Z Z<|sb4 Z Z Z Z<|(((sbC Z<|sbN)))⟩
   ·refine mn<|sq<|cF Z<|iN ?_;exact .inl ⟨Z,false,O,Ap Z Z<|sbC Z<|sbC Z<|sbC Z<|sbN⟩
  ·refine mB hg gN Z Z O (λh2=>?_) (λh2=>?_)
   ·have hlt:i<j:=by grind
    refine mn<|sq<|cT Z<|kM<|sq<|bM<|sO<|x2 Z Z<|oM<|m2 Z Z<|mG<|mG<|mG<|mG<|mG<|mG<|mG<|x2 Z Z<|oM<|mI ((i+1:Nat):Int) Z<|x1 Z ?_;exact⟨⟨i+1,_⟩,(Y:i+1≤j),(by grind),Ap Z Z<|sb4 Z Z Z Z<|(((sbC Z<|sbN)))⟩
   ·refine mn<|sq<|cF Z<|iN ?_;exact .inl ⟨Z,true,O,Ap Z Z<|sbC Z<|sbC Z<|sbC Z<|sbN⟩
 ·rintro mo s' hJ hs;refine ExM.sub hs ?_;refine sq<|sO<|m2 Z Z<|mI ((j:Nat):Int) Z<|mV (v:=aP id 0) (Im Z ho)<|mV (v:=aP id 1) (Gv Z ho)<|Ac hg gN (v:=aP id<|1+j) (W1 Z Z ho) Z GQ<|mV (v:=J z8<|l.getD j 0) (Wq Z ho Y)<|x1 Z<|bM<|sO<|mV Z ?_;refine mB hg gN Z Z O (λh3=>?_) (λh3=>?_)
  ·refine m2 Z Z ?_;refine mB hg (gS Z) Z Z O (λh4=>?_)<|λh4=>?_;·refine x2 Z Z<|cT Z<|sO<|x1 Z<|iL ?_;exact⟨_,_,⟨Z,_,Z⟩,A6 O Z Z Z⟩
   ·refine x2 Z Z<|cF Z<|sO<|mV Z ?_;refine mB hg gN Z Z O (λh5=>?_)<|λh5=>?_;·refine x1 Z<|cT Z<|sO<|x1 Z<|iL ?_;exact⟨_,_,⟨Z,_,Z⟩,A6 O Z Z Z⟩
    grind
  ·refine mV Z<|mG<|mG<|x2 Z Z<|cF Z<|sO<|mV Z ?_;refine mB hg gN Z Z O (λh8=>?_)<|λh8=>?_;·refine x1 Z<|cT Z<|sO<|x1 Z<|iL ?_;exact⟨_,_,⟨Z,_,Z⟩,A6 O Z Z Z⟩
   ·refine x1 Z<|cF Z<|sO<|mV Z ?_;refine mB hg gN Z Z O (λh9=>?_) (λh9=>?_)
    ·refine m2 Z Z ?_;refine mB hg (gS Z) Z Z O (λh10=>?_)<|λh10=>?_;·refine x2 Z Z<|cT Z<|sO<|x1 Z<|iL ?_;exact⟨_,_,⟨Z,_,Z⟩,A6 O Z Z Z⟩
     ·refine x2 Z Z<|cF Z<|kM<|sO<|x1 Z<|iL ?_;exact⟨_,_,⟨Z,_,Z⟩,A6 O Z Z Z⟩
    ·refine mV Z<|mG<|mG<|x2 Z Z<|cF Z<|kM<|sO<|x1 Z<|iL ?_;exact⟨_,_,⟨Z,_,Z⟩,A6 O Z Z Z⟩
theorem topQ (hg:hGr W0 G){H:Hz}{id T:Nat}{b m:Bool}{l:List Int}(ho:H[id]?=some (C T (nb b l m) false))(hl:N l=96):I8 gH W0 231 [aP id 0] H (λv X=>X=H∧∃r:Int,v=J U r∧-1≤r∧r≤95):=by
 refine goQ 231 16 ?_;refine sO<|x1 Z<|sq<|sO<|x1 Z<|bM ?_;refine ExM.loopJ (σ:=Nat) (τ:=Unit) (λn=>⟨.al [(0,aP id 0),(3,J U<|((n:Nat):Int)-1)],H,16⟩) (λn=>n≤96) (λn=>n) 96 0 (λ_=>⟨.al [(0,aP id 0)],H,16⟩) (λ_=>True) (Ap Z Z<|sbC Z<|sbC Z<|sbN) (bC _) ?_ ?_
 ·rintro n hn;have hn:n≤96:=hn;cases n with
  |zero=>refine sq<|sO<|mV Z<|mF Z<|mn<|cF Z ?_;exact iN<|.inl ⟨Z,(),O,Ap Z Z<|sbC Z<|sbN⟩
  |succ i=>
   refine sq<|sO<|mK (v:=J U i) Z (iE Y)<|mT Z<|mn<|cT Z<|kM<|sq<|bM<|sO<|mV (v:=aP id 0) Z<|mK (v:=J U i) Z (iE Y)<|mV (v:=aP id 0) (Im Z ho)<|mV (v:=aP id 1) (Gv Z ho)<|Ac hg gN (v:=aP id<|1+i) (W1 Z Z ho) Z GQ<|mV (v:=J z8<|l.getD i 0) (Wq Z ho Y) ?_;refine mB hg gN Z Z O (λh1=>?_)<|λh1=>?_;·refine mn<|cT Z<|sO<|mK (v:=J U i) Z (iE Y)<|x1 Z ?_;refine iL ?_;refine .inr ?_;exact⟨_,_,⟨Z,_,Z,Y,Y⟩,A6 O Z Z Z⟩
   ·refine mn<|cF Z<|kM<|oM<|mV Z<|mI (((i:Nat):Int)-1) Z<|x1 Z ?_;exact⟨i,(Y:i≤96),(Nat.lt_succ_self i),Ap Z Z<|sbC Z<|sbC Z<|sbN⟩
 ·rintro _ s' hJ hs;refine ExM.sub hs ?_;refine sO<|x1 Z ?_;exact iL ⟨_,_,⟨Z,_,Z,Y,Y⟩,A6 O Z Z Z⟩
end Go.Abs
