/- A part of the proof that tabula/tabulalaw25.PackSums returns true for every input, each argument reading as it did (its card: the last text). No conditions of its own. -/
import Derived.Test.YtjlpdflobkhkcaaGreatDoorPI
set_option linter.unusedVariables false
set_option linter.unusedSimpArgs false
set_option maxHeartbeats 4000000
namespace Go.Abs
open Go.Proofs Go.RowKit
set_option maxRecDepth 100000
variable {W0 : World} {G : List (Nat × AVal)}
structure PNm where
 n:Bz
 a:Int
 f:Bz
def pn0 :PNm:=⟨[],0,[]⟩
def nmV (p:PNm):AVal:=.agg [.str p.n,.int .i64 p.a,.str p.f]
theorem Ge {n:Nat}:∀(l:List PNm),Ab n (l.map nmV)=true
 | []=>rfl|p::r=>by show cond true (Ab n<|r.map nmV) false=true;rw[Ge r];rfl
def nmA (ix:Bz→Nat)(p:PNm):Bz:=txB ix [p.n]
def nmB (p:PNm):Bz:=E1 1 [(p.a+1).toNat]
def nmC (ix:Bz→Nat)(p:PNm):Bz:=txB ix [p.f]
def Aa9 (ix:Bz→Nat)(n:Nat)(l:List PNm):Bz:=Ae 1 n++l.flatMap (nmA ix)++l.flatMap nmB++l.flatMap (nmC ix)
theorem A0b {ix:Bz→Nat}(p:PNm):(nmA ix p).length=2:=by simp[nmA,Ae,txB]
theorem Zo (p:PNm):(nmB p).length=1:=by simp[nmB,E1,Ae]
theorem A6h {ix:Bz→Nat}(p:PNm):(nmC ix p).length=2:=by simp[nmC,Ae,txB]
section
variable {es : List (Bz × Int)} {bk : List AVal} {n0 : Nat} {b0 : UInt8} {l l' : Bz} {X : Hz}
end
theorem namedW (hg:hGr W0 G){es:List (Bz×Int)}{x y z:AVal}{ns:List PNm}{ix:Bz→Nat}(hbk:∀n,Ab n [x,.row 3<|ns.map nmV,y,z]=true)(h4:ns.length≤20)(hr:∀i,i<ns.length→(∃s:Nat,(ns.getD i pn0).a+1=s∧s<1000)∧It es (ns.getD i pn0).n=(ix (ns.getD i pn0).n:Nat)∧It es (ns.getD i pn0).f=(ix (ns.getD i pn0).f:Nat))(hixb:∀s,ix s<9223372036854775808):
 cP W0 50 [.ptr 0 0,.agg [x,.row 3<|ns.map nmV,y,z]] [.cells 108 [.nilPtr,.nilSl,.mref 1] false,.mp es] (.tup []) (wbH es [x,.row 3<|ns.map nmV,y,z] (ns.map nmV).length (UInt8.ofNat<|(ns.map nmV).length/256^0)<|Aa9 ix (ns.map nmV).length ns):=by
 have hlm:(ns.map nmV).length=ns.length:=List.length_map _;have hb4:B9 4 [.cells 108 [.nilPtr,.nilSl,.mref 1] false,.mp es,.cells 34 [x,.row 3<|ns.map nmV,y,z] false,.cells 3 (Bf [(ns.map nmV).length]) false]=true:=by show cond true (cond (Ab 4 [x,.row 3<|ns.map nmV,y,z]) (cond true true false) false) false=true;grind
 have q0:(Ae 1 (ns.map nmV).length).length=1:=Ao _ _;have q1:((Ae 1 (ns.map nmV).length++ns.flatMap (nmA ix))).length=1+ns.length*2:=by rw[lAp,Dy A0b,q0]
 have q2:(((Ae 1 (ns.map nmV).length++ns.flatMap (nmA ix))++ns.flatMap nmB)).length=1+ns.length*2+ns.length*1:=by rw[lAp,Dy Zo,q1]
 refine goW 50 56 2 ?_;refine Wm ?_;refine mS (v:=.hsl 1 3 0 1<|some 1) Z ?_;refine mC Z (A3f hg hb4 Z Z Y) ?_;refine Wm ?_;refine ExM.sub (s1:=⟨.al [(0,.ptr 0 0),(3,.ptr 2 0),(17,.row 3<|ns.map nmV),(18,.int .i64 (((ns.map nmV).length:Nat):Int)),(19,.int .i64 ((0:Nat):Int))],wbH es [x,.row 3<|ns.map nmV,y,z] (ns.map nmV).length (UInt8.ofNat<|(ns.map nmV).length/256^0)<|Ae 1 (ns.map nmV).length++(ns.take 0).flatMap (nmA ix),56⟩) (An Z bY60<|sb4 Z Z Z Z<|(((sbC Z<|sbN)))) ?_;refine ExM.lpH (σ:=Nat) (τ:=Unit) (λi=>⟨.al [(0,.ptr 0 0),(3,.ptr 2 0),(17,.row 3<|ns.map nmV),(18,.int .i64 (((ns.map nmV).length:Nat):Int)),(19,.int .i64 ((i:Nat):Int))],wbH es [x,.row 3<|ns.map nmV,y,z] (ns.map nmV).length (UInt8.ofNat<|(ns.map nmV).length/256^0)<|Ae 1 (ns.map nmV).length++(ns.take i).flatMap (nmA ix),56⟩) (λi=>i≤ns.length) (λi=>ns.length-i) 0 (λ_=>⟨.al [(0,.ptr 0 0),(3,.ptr 2 0)],wbH es [x,.row 3<|ns.map nmV,y,z] (ns.map nmV).length (UInt8.ofNat<|(ns.map nmV).length/256^0)<|Ae 1 (ns.map nmV).length++ns.flatMap (nmA ix),56⟩) (λ_=>True) (Bw 6 (frC (frO<|flC (Ap V)<|flC (E5 V)<|flC (fvM V) flN)<|frC Z<|frC (frS<|hbk _)<|frC (frS<|B5 _)<|frC (frS Z)<|frC (frS<|C4 _) frN)<|fzC Z (Ap V)<|fzC Z (Ap V)<|fzC Z (Bg (v:=.row 3<|ns.map nmV)<|Ge _)<|fI<|fI fzN) (Nat.zero_le _) ?_ ?_
 ·intro i hi;by_cases hlt:i<ns.length
  ·obtain⟨⟨s,hs,ls⟩,ha,hf⟩:=hr i hlt;have hl0:(Ae 1 (ns.map nmV).length++(ns.take i).flatMap (nmA ix)).length=1+(ns.take i).length*2:=by rw[lAp,Dy A0b,q0]
   have hl1:(ns.take i).length≤20:=by grind
   have e8:=Kq (f:=(nmA ix)) pn0 hlt;have hi2:=Eg (f:=nmV) (l:=ns) (d:=pn0) (s:=⟨.al [(20,.bool true),(0,.ptr 0 0),(3,.ptr 2 0),(17,.row 3<|ns.map nmV),(18,.int .i64 (((ns.map nmV).length:Nat):Int)),(19,.int .i64 ((i:Nat):Int))],wbH es [x,.row 3<|ns.map nmV,y,z] (ns.map nmV).length (UInt8.ofNat<|(ns.map nmV).length/256^0)<|Ae 1 (ns.map nmV).length++(ns.take i).flatMap (nmA ix),56⟩) (G:=G) (x:=.tmp 17) (i:=.tmp 19) (k:=3) Z Z Z hlt;rw[nmA]at e8;rw[nmV]at hi2;generalize ns.getD i pn0=p at hi2 e8 hs ha hf;refine Wm ?_;refine mS hi2 ?_ (hs:=by simp only[Ag,and_true];omega);refine Wm ?_;refine mS (v:=.hsl 1 7 0 1<|some 1) Z ?_;refine mC Z (A5w (k:=1) (ss:=[p.n]) (ix:=ix) (X:=[.cells 56 [.str p.n,.int .i64 p.a,.str p.f] false,.cells 9 (C5 [p.n]) false]) hg hbk (λ_ _=>Z) Z (by grind) (oneT ha) hixb) ?_;refine Wm ?_;refine hoN (i+1) Y Y<|Bw 6 (frC (frO<|flC (Ap V)<|flC (Lm V (by grind))<|flC (fvM V) flN)<|frC Z<|frC (frS<|hbk _)<|frC (frS<|B5 _)<|frC (frS Z)<|frC (by grind[frS,C4]) frN)<|fzC Z (Ap V)<|fzC Z (Ap V)<|fzC Z (Bg (v:=.row 3<|ns.map nmV)<|Ge _)<|fI<|fI fzN
  ·have he:i=ns.length:=by omega
   refine Wm ?_;rw[he,List.take_length];exact hoE () O<|Bw 6 (frC (frO<|flC (Ap V)<|flC (E5 V)<|flC (fvM V) flN)<|frC Z<|frC (frS<|hbk _)<|frC (frS<|B5 _)<|frC (frS Z)<|frC (frS<|C4 _) frN)<|fzC Z (Ap V)<|fzC Z (Ap V) fzN
 intro _ _;refine Wm ?_;refine ExM.lpH (σ:=Nat) (τ:=Unit) (λi=>⟨.al [(0,.ptr 0 0),(3,.ptr 2 0),(30,.row 3<|ns.map nmV),(31,.int .i64 (((ns.map nmV).length:Nat):Int)),(32,.int .i64 ((i:Nat):Int))],wbH es [x,.row 3<|ns.map nmV,y,z] (ns.map nmV).length (UInt8.ofNat<|(ns.map nmV).length/256^0)<|(Ae 1 (ns.map nmV).length++ns.flatMap (nmA ix))++(ns.take i).flatMap nmB,56⟩) (λi=>i≤ns.length) (λi=>ns.length-i) 0 (λ_=>⟨.al [(0,.ptr 0 0),(3,.ptr 2 0)],wbH es [x,.row 3<|ns.map nmV,y,z] (ns.map nmV).length (UInt8.ofNat<|(ns.map nmV).length/256^0)<|(Ae 1 (ns.map nmV).length++ns.flatMap (nmA ix))++ns.flatMap nmB,56⟩) (λ_=>True) (Bw 6 (frC (frO<|flC (Ap V)<|flC (Lm V Ax)<|flC (fvM V) flN)<|frC Z<|frC (frS<|hbk _)<|frC (frS<|B5 _)<|frC (frS Z)<|frC bY157 frN)<|fzC Z (Ap V)<|fzC Z (Ap V)<|fzC Z (Bg (v:=.row 3<|ns.map nmV)<|Ge _)<|fI<|fI fzN) (Nat.zero_le _) ?_ ?_
 ·intro i hi;by_cases hlt:i<ns.length
  ·obtain⟨⟨s,hs,ls⟩,ha,hf⟩:=hr i hlt;have hl0:((Ae 1 (ns.map nmV).length++ns.flatMap (nmA ix))++(ns.take i).flatMap nmB).length=(1+ns.length*2)+(ns.take i).length*1:=by rw[lAp,Dy Zo,q1]
   have hl1:(ns.take i).length≤20:=by grind
   have e8:=Kq (f:=nmB) pn0 hlt;have hi2:=Eg (f:=nmV) (l:=ns) (d:=pn0) (s:=⟨.al [(33,.bool true),(0,.ptr 0 0),(3,.ptr 2 0),(30,.row 3<|ns.map nmV),(31,.int .i64 (((ns.map nmV).length:Nat):Int)),(32,.int .i64 ((i:Nat):Int))],wbH es [x,.row 3<|ns.map nmV,y,z] (ns.map nmV).length (UInt8.ofNat<|(ns.map nmV).length/256^0)<|(Ae 1 (ns.map nmV).length++ns.flatMap (nmA ix))++(ns.take i).flatMap nmB,56⟩) (G:=G) (x:=.tmp 30) (i:=.tmp 32) (k:=3) Z Z Z hlt;rw[nmB]at e8;rw[nmV]at hi2;generalize ns.getD i pn0=p at hi2 e8 hs ha hf;refine Wm ?_;refine mS hi2 ?_ (hs:=by simp only[Ag,and_true];omega);refine Wm ?_;rw[hs];rw[hs]at e8;refine mS (v:=.hsl 1 7 0 1<|some 1) Z ?_;refine mC Z (Abe (k:=1) (ns:=[s]) (X:=[.cells 56 [.str p.n,.int .i64 p.a,.str p.f] false,.cells 3 (Bf [s]) false]) hg hbk (λ_ _=>Z) Z (by grind) (by grind)) ?_;refine Wm ?_;refine hoN (i+1) Y Y<|Bw 6 (frC (frO<|flC (Ap V)<|flC (Lm V (by grind))<|flC (fvM V) flN)<|frC Z<|frC (frS<|hbk _)<|frC (frS<|B5 _)<|frC (frS Z)<|frC (by grind[frS,C4]) frN)<|fzC Z (Ap V)<|fzC Z (Ap V)<|fzC Z (Bg (v:=.row 3<|ns.map nmV)<|Ge _)<|fI<|fI fzN
  ·have he:i=ns.length:=by omega
   refine Wm ?_;rw[he,List.take_length];exact hoE () O<|Bw 6 (frC (frO<|flC (Ap V)<|flC (E5 V)<|flC (fvM V) flN)<|frC Z<|frC (frS<|hbk _)<|frC (frS<|B5 _)<|frC (frS Z)<|frC (frS<|C4 _) frN)<|fzC Z (Ap V)<|fzC Z (Ap V) fzN
 intro _ _;refine Wm ?_;refine ExM.lpA (σ:=Nat) (λi=>⟨.al [(0,.ptr 0 0),(3,.ptr 2 0),(44,.row 3<|ns.map nmV),(45,.int .i64 (((ns.map nmV).length:Nat):Int)),(46,.int .i64 ((i:Nat):Int))],wbH es [x,.row 3<|ns.map nmV,y,z] (ns.map nmV).length (UInt8.ofNat<|(ns.map nmV).length/256^0)<|((Ae 1 (ns.map nmV).length++ns.flatMap (nmA ix))++ns.flatMap nmB)++(ns.take i).flatMap (nmC ix),56⟩) (λi=>i≤ns.length) (λi=>ns.length-i) 0 (Bw 6 (frC (frO<|flC (Ap V)<|flC (Lm V Ax)<|flC (fvM V) flN)<|frC Z<|frC (frS<|hbk _)<|frC (frS<|B5 _)<|frC (frS Z)<|frC bY157 frN)<|fzC Z (Ap V)<|fzC Z (Ap V)<|fzC Z (Bg (v:=.row 3<|ns.map nmV)<|Ge _)<|fI<|fI fzN) (Nat.zero_le _) ?_
 ·intro i hi;by_cases hlt:i<ns.length
  ·obtain⟨⟨s,hs,ls⟩,ha,hf⟩:=hr i hlt;have hl0:(((Ae 1 (ns.map nmV).length++ns.flatMap (nmA ix))++ns.flatMap nmB)++(ns.take i).flatMap (nmC ix)).length=(1+ns.length*2+ns.length*1)+(ns.take i).length*2:=by rw[lAp,Dy A6h,q2]
   have hl1:(ns.take i).length≤20:=by grind
   have e8:=Kq (f:=(nmC ix)) pn0 hlt;have hi2:=Eg (f:=nmV) (l:=ns) (d:=pn0) (s:=⟨.al [(47,.bool true),(0,.ptr 0 0),(3,.ptr 2 0),(44,.row 3<|ns.map nmV),(45,.int .i64 (((ns.map nmV).length:Nat):Int)),(46,.int .i64 ((i:Nat):Int))],wbH es [x,.row 3<|ns.map nmV,y,z] (ns.map nmV).length (UInt8.ofNat<|(ns.map nmV).length/256^0)<|((Ae 1 (ns.map nmV).length++ns.flatMap (nmA ix))++ns.flatMap nmB)++(ns.take i).flatMap (nmC ix),56⟩) (G:=G) (x:=.tmp 44) (i:=.tmp 46) (k:=3) Z Z Z hlt;rw[nmC]at e8;rw[nmV]at hi2;generalize ns.getD i pn0=p at hi2 e8 hs ha hf;refine Wm ?_;refine mS hi2 ?_ (hs:=by simp only[Ag,and_true];omega);refine Wm ?_;refine mS (v:=.hsl 1 7 0 1<|some 1) Z ?_;refine mC Z (A5w (k:=1) (ss:=[p.f]) (ix:=ix) (X:=[.cells 56 [.str p.n,.int .i64 p.a,.str p.f] false,.cells 9 (C5 [p.f]) false]) hg hbk (λ_ _=>Z) Z (by grind) (oneT hf) hixb) ?_;refine Wm ?_;refine haN (i+1) Y Y<|Bw 6 (frC (frO<|flC (Ap V)<|flC (Lm V (by grind))<|flC (fvM V) flN)<|frC Z<|frC (frS<|hbk _)<|frC (frS<|B5 _)<|frC (frS Z)<|frC (by grind[frS,C4]) frN)<|fzC Z (Ap V)<|fzC Z (Ap V)<|fzC Z (Bg (v:=.row 3<|ns.map nmV)<|Ge _)<|fI<|fI fzN
  ·have he:i=ns.length:=by omega
   refine Wm ?_;refine haE<|kJ ?_;rw[he,List.take_length];exact pS
theorem textR (hg:hGr W0 G){H:Hz}{id jd md:Nat}{l:Bz}{ss:List Bz}{es:List (Bz×Int)}{ix:Bz→Nat}(hb:B9 H.length H=true)(ho:H[id]?=some (.cells 108 [.ptr id 0,.hsl 1 jd 0 l.length none,.mref md] false))(hj:H[jd]?=some (.cells 5 (u8c l) true))(hm:H[md]?=some (.mp es))(hl:l.length+ss.length*2≤1000000)(hix:∀i,i<ss.length→It es (ss.getD i [])=(ix (ss.getD i []):Nat))(hixb:∀s,ix s<9223372036854775808):cP W0 87 [.ptr id 0,.row 1<|ss.map AVal.str] H (.tup []) (us H id jd (.mref md)<|l++txB ix ss):=by
 have hid:=gLt ho;have hjd:=gLt hj;have hne:id≠jd:=λe=>by grind
 have hmi:id≠md:=λe=>by grind
 have hmj:jd≠md:=λe=>by grind
 have hmU:∀{k:Bz},(us H id jd (.mref md) k)[md]?=some (.mp es):=λ{k}=>A63 hmi hmj hm;have hbA:∀{k:Bz}{n:Nat},B9 (us H id jd (.mref md) k++[HObj.cells 3 (Bf [n]) false]).length (us H id jd (.mref md) k++[HObj.cells 3 (Bf [n]) false])=true:=λ{k n}=>by rw[lAp,Gq];exact F9 (Ih (Nat.le_add_right _ _)<|Tv hb ho hid hjd) Z
 refine goM 87 22 ?_;refine sO<|mV Z<|mV (v:=.int .i64 ((ss.length:Nat):Int)) (Hj Z)<|x1 Z<|bM ?_;refine ExM.loopJ (σ:=Nat) (τ:=Unit) (λi=>⟨.al [(0,.ptr id 0),(6,.row 1<|ss.map AVal.str),(7,.int .i64 ((ss.length:Nat):Int)),(8,.int .i64 ((i:Nat):Int))],us H id jd (.mref md)<|l++txB ix (ss.take i),22⟩) (λi=>i≤ss.length) (λi=>ss.length-i) 0 0 (λ_=>⟨.al [],us H id jd (.mref md)<|l++txB ix ss,22⟩) (λ_=>True) (An Z (by rw[List.take_zero];show us H id jd (.mref md) (l++[])=H;grind[Vq])<|sb4 Z Z Z Z<|(((sbN)))) (Nat.zero_le _) ?_ ?_
 ·rintro i hi;have hi:i≤ss.length:=hi;by_cases hlt:i<ss.length
  ·have hbl:(l++txB ix (ss.take i)).length+1*2≤1000000:=by rw[lAp,Ja,List.length_take];omega
   refine sO<|mT Z<|mn<|sq<|cT Z<|kM<|sq<|bM<|sO<|mS (v:=.eptr (.str<|ss.getD i []) 0) (Eg Z Z Z hlt)<|mV (v:=.str<|ss.getD i []) Z<|x1 Z<|oM<|m2 Z Z<|mV (v:=.ptr id 0) (Ig Z<|Nb hid)<|mV (v:=.ptr id 2) (Gk Z<|Nb hid)<|mV (v:=.mref md) (Na Z (Nb hid) Z)<|mV Z<|mV (v:=.int .i64 ((ix (ss.getD i []):Nat):Int)) (A1z Z Z hmU<|hix i hlt)<|mK (v:=.hsl 1 H.length 0 [ix<|ss.getD i []].length<|some 1) Z (congrArg (λn=>AVal.hsl 1 n 0 1<|some 1) Gq)<|mC Z (by have h:=Ac7 (H:=us H id jd (.mref md) (l++txB ix (ss.take i))++[.cells 3 (Bf [ix<|ss.getD i []]) false]) (sd:=H.length) (ns:=[ix<|ss.getD i []]) (w:=2) (cp:=some 1) hg hbA (gA<|Nb hid) (gA<|A6r hjd hne) (by grind[Gq]) V Ax hbl (λj=>by grind);rw[A4m (by grind[Gq]) (by grind[Gq]),A62 hne,Ph]at h;exact h)<|mn<|oM ?_;refine mFz (s1:=⟨.al [(0,.ptr id 0),(6,.row 1<|ss.map AVal.str),(7,.int .i64 ((ss.length:Nat):Int)),(8,.int .i64 ((i:Nat):Int))],us H id jd (.mref md)<|l++txB ix (ss.take i)++Ae 2 (ix<|ss.getD i []),22⟩) (Aq H.length Z (Nat.le_refl _) Vi (Tv hb ho hid hjd)<|fzC Z (Jc hid)<|fzC Z (Bg (v:=.row 1<|ss.map AVal.str)<|Cb _)<|fI<|fI fzN) ?_;refine mI ((i+1:Nat):Int) Z<|x1 Z ?_;exact⟨(i+1),(Y:i+1≤ss.length),Y,An Z (by rw[A1p hlt,List.append_assoc])<|sb4 Z Z Z Z<|(((sbN)))⟩
  ·have he:i=ss.length:=by omega
   refine sO<|mF Z<|mn<|sq<|cF Z<|ExM.exit ?_;grind[An,sbN]
 ·rintro _ s' hJ hs;exact(A6 (rs:=[]) (vs:=[]) O Z Z hs.H.symm:Iy [] H.length (.tup []) (us H id jd (.mref md)<|l++txB ix ss) .normal s')
def Nr (b:Bool):List Bz:=cond b [[116,97,98],[120],[121,32,121]] []
def tabB (ix:Bz→Nat)(b:Bool):Bz:=Ae 1 (tlT b).length++cond b (txB ix [[116,97,98]]++E1 1 [0,9,1,2,2]++txB ix [[120],[121,32,121]]) []
theorem tablesW (hg:hGr W0 G){es:List (Bz×Int)}{x y z:AVal}{ix:Bz→Nat}(b:Bool)(hbk:∀n,Ab n [x,y,.row 6<|tlT b,z]=true)(hr:∀s∈Nr b,It es s=(ix s:Nat))(hixb:∀s,ix s<9223372036854775808):
 cP W0 51 [.ptr 0 0,.agg [x,y,.row 6<|tlT b,z]] [.cells 108 [.nilPtr,.nilSl,.mref 1] false,.mp es] (.tup []) (wbH es [x,y,.row 6<|tlT b,z] (tlT b).length (UInt8.ofNat<|(tlT b).length/256^0)<|tabB ix b):=by
 have hb4:B9 4 [.cells 108 [.nilPtr,.nilSl,.mref 1] false,.mp es,.cells 34 [x,y,.row 6<|tlT b,z] false,.cells 3 (Bf [(tlT b).length]) false]=true:=by show cond true (cond (Ab 4 [x,y,.row 6<|tlT b,z]) (cond true true false) false) false=true;grind
 cases b with|false=>have hb0:∀n,Ab n [x,y,.row 6 [],z]=true:=hbk;show cP W0 51 [.ptr 0 0,.agg [x,y,.row 6 [],z]] _ _ (wbH es [x,y,.row 6 [],z] 0 (UInt8.ofNat<|0/256^0)<|Ae 1 0);refine goW 51 43 2 ?_;refine Wm ?_;refine mS (v:=.hsl 1 3 0 1<|some 1) Z ?_;refine mC Z (A3f (n:=0) hg hb4 Z Z V) ?_;refine Wm ?_;refine ExM.un 0 ?_;refine Wm ?_;refine uE ?_;refine kJ ?_ (hj:=by simp_all);exact pS|true=>have hb1:∀n,Ab n [x,y,.row 6 [.agg TbC],z]=true:=hbk;have h1:It es [116,97,98]=(ix [116,97,98]:Nat):=hr _ (by simp[Nr]);have h2:It es [120]=(ix [120]:Nat):=hr _ (by simp[Nr]);have h3:It es [121,32,121]=(ix [121,32,121]:Nat):=hr _ (by simp[Nr]);show cP W0 51 [.ptr 0 0,.agg [x,y,.row 6 [.agg TbC],z]] _ _ (wbH es [x,y,.row 6 [.agg TbC],z] 1 (UInt8.ofNat<|1/256^0)<|Ae 1 1++(txB ix [[116,97,98]]++E1 1 [0,9,1,2,2]++txB ix [[120],[121,32,121]]));refine goW 51 43 2 ?_;refine Wm ?_;refine mS (v:=.hsl 1 3 0 1<|some 1) Z ?_;refine mC Z (A3f (n:=1) hg hb4 Z Z V) ?_;refine Wm ?_;refine ExM.sub (s1:=⟨.al [(0,.ptr 0 0),(3,.ptr 2 0),(13,.row 6 [.agg TbC]),(14,.int .i64 1),(15,.int .i64 0)],wbH es [x,y,.row 6 [.agg TbC],z] 1 (UInt8.ofNat<|1/256^0)<|Ae 1 1,43⟩) (An Z Z<|sb4 Z Z Z Z<|(((sbC Z<|sbN)))) ?_;refine ExM.un 1 ?_;refine Wm ?_;refine mS (v:=.eptr (.agg TbC) 0) Z ?_;refine Wm ?_;refine mS (v:=.hsl 1 7 0 1<|some 1) Z ?_;refine mC Z (A5w (k:=1) (ss:=[[116,97,98]]) (ix:=ix) (X:=[.cells 58 TbC false,.cells 9 (C5 [[116,97,98]]) false]) hg hb1 (λ_ _=>Z) Z (by rw[Ao];decide) (oneT h1) hixb) ?_;refine Wm ?_;refine mS (v:=.hsl 1 8 0 5<|some 5) Z ?_;refine mC Z (Abe (k:=2) (ns:=[0,9,1,2,2]) (X:=[.cells 58 TbC false,.cells 9 (C5 [[116,97,98]]) false,.cells 3 (Bf [0,9,1,2,2]) false]) hg hb1 (λ_ _=>Z) Z (by rw[lAp,Ao,Ja];decide) (by grind)) ?_;refine Wm ?_;refine mC Z (textR (id:=0) (jd:=5) (md:=1) (ss:=[[120],[121,32,121]]) (ix:=ix) (l:=Ae 1 1++txB ix [[116,97,98]]++E1 1 [0,9,1,2,2]) hg (wbX hb1<|λ_ _=>Z) Z Z Z (by simp_all[Ao,Ja,H8]) (by grind) hixb) ?_;refine Wm ?_;refine uN ?_;refine ExM.fh (s1:=⟨.al [(14,.int .i64 1),(15,.int .i64 1)],wbH es [x,y,.row 6 [.agg TbC],z] 1 (UInt8.ofNat<|1/256^0)<|Ae 1 1++(txB ix [[116,97,98]]++E1 1 [0,9,1,2,2]++txB ix [[120],[121,32,121]]),43⟩) (Bw 6 (frC (frO<|flC (Ap V)<|flC (Lm V (by grind))<|flC (fvM V) flN)<|frC Z<|frC (frS<|hb1 _)<|frC (frS<|B5 _)<|frC (frS Z)<|frC (by grind[frS,C4]) frN)<|fI<|fI fzN) ?_;refine Wm ?_;refine uE ?_;refine kJ ?_ (hj:=by simp_all);exact pS
def Tx0i0 :ACode:=(sQ [yV 30<|.bin .lss none 29 28]<|.seq (.cond 30 .skip<|.exit 2)<|.seq (.block 3<|sQ [yV 31<|.idxSl 3 27 29,yV 32<|.load 3 true 31,yV 7<|.alloc 84 [.int .i64 0,.int .i64 0,.str []],yN<|.store 3 7 32]<|.ops [yM 33 3,yV 34<|.fieldAddr 2 7,yV 35<|.load 1 false 34,yV 36<|.bslice 9 1 1 [.str []] [(0,1,35)],yV 37<|.append 9 1 16 33 36,yM 3 37])<|.ops [yV 38<|.bin .add none 29<|vI 1,yM 29 38])
theorem Zi :∀(p:List Bz),(C5 p).all AVal.one=true
 | []=>rfl|_::p=>Zi p
theorem Ab1 (l p:List Bz):C5 (l++p)=C5 l++C5 p:=by simp[C5]
theorem Ut {s:St}{x y:AOpd}{vy:AVal}{l p:List Bz}{jd:Nat}{c:Option Nat}{H':Hz}(hx:ev G s x=some (.hsl 1 jd 0 l.length c))(hy:ev G s y=some vy)(hv:D6 1 s.H vy=some (C5 p,p.length))(hj:s.H[jd]?=some (.cells 9 (C5 l) true))(hp:Nat.beq p.length 0=false)(hH:s.H.set jd (.cells 9 (C5<|l++p) true)=H'):
 aop G s (.append 9 1 16 x y)=some (.val (.hsl 1 jd 0 (l++p).length none) H' [(((l.length+p.length)*16:Nat),C6),((l.length+p.length:Nat),C6)]):=by
 subst hH;have hl:(C5 l).length=l.length*1:=Ac8;simp_all[Ab1,aop,Qs,Zi,Gl]
abbrev tH (bk sh0:List AVal)(q0:Bz)(l:List Bz):Hz:=[.cells 34 bk false,.cells 48 sh0 false,.cells 9 [.str q0] false,.cells 9 (C5 l) true]
def nmT (p:PNm):List Bz:=[p.n,p.f]
def rlT (r:PRl):List Bz:=[r.f]
def Hg (shs:List PSh)(ns:List PNm)(tb:Bool)(rs:List PRl):List Bz:=Ec shs++ns.flatMap nmT++Nr tb++rs.flatMap rlT
def Is (L:List Bz):List Bz:=Lib.compactUpTo (U8 L).toArray (U8 L).length
theorem Oa {H:Hz}{n:Nat}{l l':List Bz}{c:Option Nat}(hn:3<n)(e:l=l'):FzV H n (.hsl 1 3 0 l.length c) (.hsl 1 3 0 l'.length c):=by grind[E5]
theorem Of {H:Hz}{n:Nat}{l l':List Bz}(e:l=l'):FrO H n (.cells 9 (C5 l) true) (.cells 9 (C5 l') true):=by grind[frS,Cb]
section
variable {bk sh0 : List AVal} {q0 : Bz}
theorem Acx (hg:hGr W0 G){l0:List Bz}{cs:List PCl}{A:AVal}{B C:Int}{K:Ai→St→Prop}(hbk:Ab 0 bk=true)(hsh:Ab 0 sh0=true)(hA:blw 0 A=true)(hl:l0.length+cs.length≤1000000)
 (hK:K (.exit 2) ⟨.al [(30,.bool false),(1,.ptr 0 0),(3,.hsl 1 3 0 (l0++(cs.take cs.length).map (·.s)).length none),(15,A),(16,.int .i64 B),(17,.int .i64 C),(27,.row 3<|cs.map pcV),(28,.int .i64 (((cs.map pcV).length:Nat):Int)),(29,.int .i64 ((cs.length:Nat):Int))],(tH bk sh0 q0<|l0++(cs.take cs.length).map (·.s)),88⟩):ExM Tryz.prog W0 0 (.loop Tx0i0) ⟨.al [(1,.ptr 0 0),(3,.hsl 1 3 0 (l0++(cs.take 0).map (·.s)).length none),(15,A),(16,.int .i64 B),(17,.int .i64 C),(27,.row 3<|cs.map pcV),(28,.int .i64 (((cs.map pcV).length:Nat):Int)),(29,.int .i64 ((0:Nat):Int))],(tH bk sh0 q0<|l0++(cs.take 0).map (·.s)),88⟩ K:=by
 have hlm:(cs.map pcV).length=cs.length:=List.length_map _;refine ExM.lpA (σ:=Nat) (λj=>⟨.al [(1,.ptr 0 0),(3,.hsl 1 3 0 (l0++(cs.take j).map (·.s)).length none),(15,A),(16,.int .i64 B),(17,.int .i64 C),(27,.row 3<|cs.map pcV),(28,.int .i64 (((cs.map pcV).length:Nat):Int)),(29,.int .i64 ((j:Nat):Int))],(tH bk sh0 q0<|l0++(cs.take j).map (·.s)),88⟩) (λj=>j≤cs.length) (λj=>cs.length-j) 0 (Bw 4 (frC (frS hbk)<|frC (frS hsh)<|frC (frS Z)<|frC (Of Z) frN)<|fzC Z (Ap V)<|fzC Z (Oa V Z)<|fzC Z (Bg hA)<|fI<|fI<|fzC Z (Bg (v:=.row 3<|cs.map pcV)<|Cc _)<|fI<|fI fzN) (Nat.zero_le _) ?_;intro j hj;unfold Tx0i0;by_cases hlt:j<cs.length
 ·have hi2:=Eg (f:=pcV) (l:=cs) (d:=pc0) (s:=⟨.al [(30,.bool true),(1,.ptr 0 0),(3,.hsl 1 3 0 (l0++(cs.take j).map (·.s)).length none),(15,A),(16,.int .i64 B),(17,.int .i64 C),(27,.row 3<|cs.map pcV),(28,.int .i64 (((cs.map pcV).length:Nat):Int)),(29,.int .i64 ((j:Nat):Int))],(tH bk sh0 q0<|l0++(cs.take j).map (·.s)),88⟩) (G:=G) (x:=.tmp 27) (i:=.tmp 29) (k:=3) Z Z Z hlt;have e8:=mp_take hlt;have hl1:((cs.take j).map (·.s)).length≤j:=by grind
  rw[pcV]at hi2;generalize cs.getD j pc0=c at hi2 e8;refine Wm ?_;refine mS hi2 ?_ (hs:=by simp only[Ag,and_true];omega);refine Wm ?_;refine mS (v:=.hsl 1 5 0 1<|some 1) Z ?_;refine mS (Ut (p:=[c.s]) Z Z Z Z Z Z) ?_ (hs:=by simp only[Ag,and_true,C6,lAp,lCo,lNi];omega);refine Wm ?_;refine haN (j+1) Y Y<|Bw 4 (frC (frS hbk)<|frC (frS hsh)<|frC (frS Z)<|frC (Of (by grind)) frN)<|fzC Z (Ap V)<|fzC Z (Oa V (by grind))<|fzC Z (Bg hA)<|fI<|fI<|fzC Z (Bg (v:=.row 3<|cs.map pcV)<|Cc _)<|fI<|fI fzN
 ·have he:j=cs.length:=by omega
  subst he;refine Wm ?_;exact haE hK
end
abbrev bkT (shs:List PSh)(ns:List PNm)(tb:Bool)(rs:List PRl):List AVal:=[.row 2<|shs.map psV,.row 3<|ns.map nmV,.row 6<|tlT tb,.row 8<|rs.map rlV]
abbrev A89 (shs:List PSh):List AVal:=[.str (shs.getD 0 ps0).nm,.row 3<|(shs.getD 0 ps0).cs.map pcV]
abbrev tG (shs:List PSh)(ns:List PNm)(tb:Bool)(rs:List PRl)(l:List Bz):Hz:=tH (bkT shs ns tb rs) (A89 shs) (shs.getD 0 ps0).nm l
def stS (shs:List PSh)(ns:List PNm)(tb:Bool)(rs:List PRl):Nat→St
 |0=>⟨.al [(1,.ptr 0 0),(3,.nilSl),(15,.row 2<|shs.map psV),(16,.int .i64 (((shs.map psV).length:Nat):Int)),(17,.int .i64 ((0:Nat):Int))],[.cells 34 (bkT shs ns tb rs) false],88⟩|i+1=>⟨.al [(1,.ptr 0 0),(3,.hsl 1 3 0 (Ec<|shs.take<|i+1).length none),(15,.row 2<|shs.map psV),(16,.int .i64 (((shs.map psV).length:Nat):Int)),(17,.int .i64 (((i+1):Nat):Int))],(tG shs ns tb rs<|Ec<|shs.take<|i+1),88⟩
theorem textsG (hg:hGr W0 G){shs:List PSh}{ns:List PNm}{tb:Bool}{rs:List PRl}(hs0:0<shs.length)(hl:(Hg shs ns tb rs).length≤900000):cP W0 45 [.agg<|bkT shs ns tb rs] [] (.row 1<|(Is<|Hg shs ns tb rs).map AVal.str) []:=by
 have hbk:Ab 0 (bkT shs ns tb rs)=true:=by
  have h1:Ab 0 (tlT tb)=true:=by cases tb<;>rfl
  simp only[Ab,blw,Br,Ge,En,h1,cond_true]
 have hsh:Ab 0 (A89 shs)=true:=by simp only[Ab,blw,Cc,cond_true]
 have hls:(shs.map psV).length=shs.length:=List.length_map _;have hln:(ns.map nmV).length=ns.length:=List.length_map _;have hlr:(rs.map rlV).length=rs.length:=List.length_map _;have hlen:(Ec shs).length+(ns.flatMap nmT).length+(Nr tb).length+(rs.flatMap rlT).length≤900000:=by grind[Hg]
 have hsl:shs.length≤(Ec shs).length:=by
  have:∀l:List PSh,l.length≤(Ec l).length:=λl=>by induction l with|nil=>exact Nat.le_refl _|cons x r ih=>simp only[Ec,List.flatMap_cons,lAp,shT,lCo]at ih⊢;omega
  grind
 have hnl:ns.length≤(ns.flatMap nmT).length:=by
  have:∀l:List PNm,(l.flatMap nmT).length=l.length*2:=λl=>by induction l with|nil=>rfl|cons x r ih=>simp only[List.flatMap_cons,lAp,nmT,lCo,lNi]at ih⊢;omega
  grind
 have hrl:rs.length≤(rs.flatMap rlT).length:=by
  have:∀l:List PRl,(l.flatMap rlT).length=l.length:=λl=>by induction l with|nil=>rfl|cons x r ih=>simp only[List.flatMap_cons,lAp,rlT,lCo,lNi]at ih⊢;omega
  grind
 have htl:(tlT tb).length≤1:=by cases tb<;>decide
 refine goW 45 88 0 ?_;refine Wm ?_;refine ExM.lpH (σ:=Nat) (τ:=Unit) (stS shs ns tb rs) (λi=>i≤shs.length) (λi=>shs.length-i) 0 (λ_=>⟨.al [(1,.ptr 0 0),(3,.hsl 1 3 0 (Ec shs).length none)],(tG shs ns tb rs<|Ec shs),88⟩) (λ_=>True) (Bw 1 (frC (frS hbk) frN)<|fzC Z (Ap V)<|fzC Z Bi<|fzC Z (Bg (v:=.row 2<|shs.map psV)<|Br _)<|fI<|fI fzN) (Nat.zero_le _) ?_ ?_
 ·intro i hi;by_cases hlt:i<shs.length
  ·have hb:(Ec<|shs.take i).length+(1+(shs.getD i ps0).cs.length)≤(Ec shs).length:=by have h:=A4n (f:=shT) ps0 hlt;grind[shT,Ec]
   have e8:=Aba hlt;cases i with|zero=>have hi2:=Eg (f:=psV) (l:=shs) (d:=ps0) (s:=⟨.al [(18,.bool true),(1,.ptr 0 0),(3,.nilSl),(15,.row 2<|shs.map psV),(16,.int .i64 (((shs.map psV).length:Nat):Int)),(17,.int .i64 ((0:Nat):Int))],[.cells 34 (bkT shs ns tb rs) false],88⟩) (G:=G) (x:=.tmp 15) (i:=.tmp 17) (k:=2) Z Z Z hlt;rw[psV]at hi2;unfold stS;refine Wm ?_;refine mS hi2 ?_ (hs:=by simp only[Ag,and_true];omega);refine Wm ?_;refine mS (v:=.hsl 1 2 0 1<|some 1) Z ?_;refine mS (v:=.hsl 1 3 0 1 none) Z ?_ (hs:=by simp_all[Ag,C6]);refine Wm ?_;refine ExM.fh (s1:=⟨.al [(1,.ptr 0 0),(3,.hsl 1 3 0 ([(shs.getD 0 ps0).nm]++((shs.getD 0 ps0).cs.take 0).map (·.s)).length none),(15,.row 2<|shs.map psV),(16,.int .i64 (((shs.map psV).length:Nat):Int)),(17,.int .i64 ((0:Nat):Int)),(27,.row 3<|(shs.getD 0 ps0).cs.map pcV),(28,.int .i64 ((((shs.getD 0 ps0).cs.map pcV).length:Nat):Int)),(29,.int .i64 ((0:Nat):Int))],(tG shs ns tb rs<|[(shs.getD 0 ps0).nm]++((shs.getD 0 ps0).cs.take 0).map (·.s)),88⟩) (Bw 4 (frC (frS hbk)<|frC (frS hsh)<|frC (frS Z)<|frC (by rw[List.take_zero,List.map_nil,List.append_nil];exact frS rfl) frN)<|fzC Z (Ap V)<|fzC Z (Lm V Ax)<|fzC Z (Bg (v:=.row 2<|shs.map psV)<|Br _)<|fI<|fI<|fzC Z (Bg (v:=.row 3<|(shs.getD 0 ps0).cs.map pcV)<|Cc _)<|fI<|fI fzN) ?_;refine Acx hg (B:=(((shs.map psV).length:Nat):Int)) (C:=((0:Nat):Int)) hbk hsh (A:=.row 2<|shs.map psV) (Br _) (by grind) ?_;refine kJ ?_ (hj:=by simp_all);refine Wm ?_;refine hoN 1 hlt Y (Bw 4 (frC (frS hbk)<|frC (frS hsh)<|frC (frS Z)<|frC (Of bY118) frN)<|fzC Z (Ap V)<|fzC Z (Oa V bY118)<|fzC Z (Bg (v:=.row 2<|shs.map psV)<|Br _)<|fI<|fI fzN)|succ i=>have hi2:=Eg (f:=psV) (l:=shs) (d:=ps0) (s:=⟨.al [(18,.bool true),(1,.ptr 0 0),(3,.hsl 1 3 0 (Ec<|shs.take<|i+1).length none),(15,.row 2<|shs.map psV),(16,.int .i64 (((shs.map psV).length:Nat):Int)),(17,.int .i64 (((i+1):Nat):Int))],(tG shs ns tb rs<|Ec<|shs.take<|i+1),88⟩) (G:=G) (x:=.tmp 15) (i:=.tmp 17) (k:=2) Z Z Z hlt;rw[psV]at hi2;unfold stS;refine Wm ?_;refine mS hi2 ?_ (hs:=by simp only[Ag,and_true];omega);refine Wm ?_;refine mS (v:=.hsl 1 5 0 1<|some 1) Z ?_;refine mS (Ut (p:=[(shs.getD (i+1) ps0).nm]) Z Z Z Z Z Z) ?_ (hs:=by simp only[Ag,and_true,C6,lCo,lNi];omega);refine Wm ?_;refine ExM.fh (s1:=⟨.al [(1,.ptr 0 0),(3,.hsl 1 3 0 ((Ec (shs.take<|i+1)++[(shs.getD (i+1) ps0).nm])++((shs.getD (i+1) ps0).cs.take 0).map (·.s)).length none),(15,.row 2<|shs.map psV),(16,.int .i64 (((shs.map psV).length:Nat):Int)),(17,.int .i64 (((i+1):Nat):Int)),(27,.row 3<|(shs.getD (i+1) ps0).cs.map pcV),(28,.int .i64 ((((shs.getD (i+1) ps0).cs.map pcV).length:Nat):Int)),(29,.int .i64 ((0:Nat):Int))],(tG shs ns tb rs<|(Ec (shs.take<|i+1)++[(shs.getD (i+1) ps0).nm])++((shs.getD (i+1) ps0).cs.take 0).map (·.s)),88⟩) (Bw 4 (frC (frS hbk)<|frC (frS hsh)<|frC (frS Z)<|frC (Of (by grind)) frN)<|fzC Z (Ap V)<|fzC Z (Oa V (by grind))<|fzC Z (Bg (v:=.row 2<|shs.map psV)<|Br _)<|fI<|fI<|fzC Z (Bg (v:=.row 3<|(shs.getD (i+1) ps0).cs.map pcV)<|Cc _)<|fI<|fI fzN) ?_;refine Acx hg (B:=(((shs.map psV).length:Nat):Int)) (C:=(((i+1):Nat):Int)) hbk hsh (A:=.row 2<|shs.map psV) (Br _) (by grind) ?_;refine kJ ?_ (hj:=by simp_all);refine Wm ?_;refine hoN (i+2) hlt Y<|Bw 4 (frC (frS hbk)<|frC (frS hsh)<|frC (frS Z)<|frC (Of (by grind)) frN)<|fzC Z (Ap V)<|fzC Z (Oa V (by grind))<|fzC Z (Bg (v:=.row 2<|shs.map psV)<|Br _)<|fI<|fI fzN
  ·have he:i=shs.length:=by omega
   subst he;cases hz:shs.length with
   |zero=>omega
   |succ q=>
    have ht:shs.take (q+1)=shs:=by grind
    show ExM Tryz.prog W0 0 _ ⟨.al [(1,.ptr 0 0),(3,.hsl 1 3 0 (Ec<|shs.take<|q+1).length none),(15,.row 2<|shs.map psV),(16,.int .i64 (((shs.map psV).length:Nat):Int)),(17,.int .i64 (((q+1):Nat):Int))],(tG shs ns tb rs<|Ec<|shs.take<|q+1),88⟩ _;rw[ht];refine Wm ?_;exact hoE () O<|Bw 4 (frC (frS hbk)<|frC (frS hsh)<|frC (frS Z)<|frC (Of Z) frN)<|fzC Z (Ap V)<|fzC Z (Oa V Z) fzN
 intro _ _;refine Wm ?_;refine ExM.lpH (σ:=Nat) (τ:=Unit) (λi=>⟨.al [(1,.ptr 0 0),(3,.hsl 1 3 0 (Ec shs++(ns.take i).flatMap nmT).length none),(41,.row 3<|ns.map nmV),(42,.int .i64 (((ns.map nmV).length:Nat):Int)),(43,.int .i64 ((i:Nat):Int))],(tG shs ns tb rs<|Ec shs++(ns.take i).flatMap nmT),88⟩) (λi=>i≤ns.length) (λi=>ns.length-i) 0 (λ_=>⟨.al [(1,.ptr 0 0),(3,.hsl 1 3 0 (Ec shs++ns.flatMap nmT).length none)],(tG shs ns tb rs<|Ec shs++ns.flatMap nmT),88⟩) (λ_=>True) (Bw 4 (frC (frS hbk)<|frC (frS hsh)<|frC (frS Z)<|frC (Of (by grind)) frN)<|fzC Z (Ap V)<|fzC Z (Oa V (by grind))<|fzC Z (Bg (v:=.row 3<|ns.map nmV)<|Ge _)<|fI<|fI fzN) (Nat.zero_le _) ?_ ?_
 ·intro i hi;by_cases hlt:i<ns.length;·have e8:=Ro (f:=nmT) pn0 hlt;have hb:=A4n (f:=nmT) pn0 hlt;have hi2:=Eg (f:=nmV) (l:=ns) (d:=pn0) (s:=⟨.al [(44,.bool true),(1,.ptr 0 0),(3,.hsl 1 3 0 (Ec shs++(ns.take i).flatMap nmT).length none),(41,.row 3<|ns.map nmV),(42,.int .i64 (((ns.map nmV).length:Nat):Int)),(43,.int .i64 ((i:Nat):Int))],(tG shs ns tb rs<|Ec shs++(ns.take i).flatMap nmT),88⟩) (G:=G) (x:=.tmp 41) (i:=.tmp 43) (k:=3) Z Z Z hlt;rw[nmV]at hi2;rw[nmT]at e8 hb;generalize ns.getD i pn0=p at hi2 e8 hb;simp only[lCo,lNi]at hb;refine Wm ?_;refine mS hi2 ?_ (hs:=by simp only[Ag,and_true];omega);refine Wm ?_;refine mS (v:=.hsl 1 5 0 2<|some 2) Z ?_;refine mS (Ut (p:=[p.n,p.f]) Z Z Z Z Z Z) ?_ (hs:=by simp only[Ag,and_true,C6,lAp,lCo,lNi];omega);refine Wm ?_;refine hoN (i+1) hlt Y (Bw 4 (frC (frS hbk)<|frC (frS hsh)<|frC (frS Z)<|frC (Of (by grind)) frN)<|fzC Z (Ap V)<|fzC Z (Oa V (by grind))<|fzC Z (Bg (v:=.row 3<|ns.map nmV)<|Ge _)<|fI<|fI fzN)
  ·have he:i=ns.length:=by omega
   subst he;refine Wm ?_;exact hoE () O<|Bw 4 (frC (frS hbk)<|frC (frS hsh)<|frC (frS Z)<|frC (Of (by grind)) frN)<|fzC Z (Ap V)<|fzC Z (Oa V (by grind)) fzN
 intro _ _;refine Wm ?_;refine ExM.lpH (σ:=Nat) (τ:=Unit) (λi=>⟨.al [(1,.ptr 0 0),(3,.hsl 1 3 0 ((Ec shs++ns.flatMap nmT)++cond (Nat.beq i 0) [] (Nr tb)).length none),(56,.row 6<|tlT tb),(57,.int .i64 (((tlT tb).length:Nat):Int)),(58,.int .i64 ((i:Nat):Int))],(tG shs ns tb rs<|(Ec shs++ns.flatMap nmT)++cond (Nat.beq i 0) [] (Nr tb)),88⟩) (λi=>i≤(tlT tb).length) (λi=>(tlT tb).length-i) 0 (λ_=>⟨.al [(1,.ptr 0 0),(3,.hsl 1 3 0 ((Ec shs++ns.flatMap nmT)++Nr tb).length none)],(tG shs ns tb rs<|(Ec shs++ns.flatMap nmT)++Nr tb),88⟩) (λ_=>True) (Bw 4 (frC (frS hbk)<|frC (frS hsh)<|frC (frS rfl)<|frC (Of (List.append_nil _).symm) frN)<|fzC rfl (Ap V)<|fzC rfl (Oa V (List.append_nil _).symm)<|fzC rfl (Bg (v:=.row 6<|tlT tb) (by cases tb<;>rfl))<|fI<|fI fzN) (Nat.zero_le _) ?_ ?_
 ·intro i hi;cases tb with
  |false=>have he:i=0:=Nat.le_zero.1 hi;subst he;refine Wm ?_;exact hoE () O<|Bw 4 (frC (frS hbk)<|frC (frS hsh)<|frC (frS Z)<|frC (Of Z) frN)<|fzC Z (Ap V)<|fzC Z (Oa V Z) fzN
  |true=>
   have he:i=0∨i=1:=Y;rcases he with rfl|rfl;·refine Wm ?_;refine mS (v:=.eptr (.agg TbC) 0) Z ?_ (hs:=by simp only[Ag,and_true];decide);refine Wm ?_;refine ExM.fh (s1:=⟨.al [(1,.ptr 0 0),(3,.hsl 1 3 0 (Ec shs++ns.flatMap nmT).length none),(11,.ptr 4 0),(56,.row 6 [.agg TbC]),(57,.int .i64 1),(58,.int .i64 0)],(tG shs ns true rs<|Ec shs++ns.flatMap nmT)++[.cells 58 TbC false],88⟩) (Bw 5 (frC (frS hbk)<|frC (frS hsh)<|frC (frS Z)<|frC (Of<|List.append_nil _)<|frC (frS Z) frN)<|fzC Z (Ap V)<|fzC Z (Oa V<|List.append_nil _)<|fzC Z (Ap (id:=4) (off:=0) V)<|fzC Z (Bg (v:=.row 6 [.agg TbC]) Z)<|fI<|fI fzN) ?_;refine ExM.drawC hg ?_;refine Dm Z Z O Am<|Dm Z Z O Am<|Dm Z Z O Am<|Rk (v:=.hsl 1 5 0 1<|some 1) Z Z O Z (by repeat (first|exact pdN|refine pdC (cN Z) ?_|refine pdC (cY Z<|evY Z O) ?_)) ?_;refine Rk (Ut (p:=[[116,97,98]]) (H':=(tG shs ns true rs<|(Ec shs++ns.flatMap nmT)++[[116,97,98]])++[.cells 58 TbC false,.cells 9 [.str [116,97,98]] false]) Z Z Z Z Z Z) Z bY134 Z (by repeat (first|exact pdN|refine pdC (cN Z) ?_|refine pdC (cY Z<|evY Z O) ?_)) ?_;refine U7 Z Z O Z (ptC (cNp (by simp_all))<|ptC (cYp (by show(Nat.beq 8 24|| !(SP.mayB _ 8 5))=false;rfl)<|evY Z O)<|ptC (cYp (by show(Nat.beq 0 24|| !(SP.mayB _ 0 5))=false;rfl)<|evY Z O) ptN)<|U7 (v:=.row 1 [.str [120],.str [121,32,121]]) Z Z O Z (ptC (cNp (by simp_all))<|ptC (cYp (by show(Nat.beq 8 24|| !(SP.mayB _ 8 6))=false;rfl)<|evY Z O)<|ptC (cYp (by show(Nat.beq 0 24|| !(SP.mayB _ 0 6))=false;rfl)<|evY Z O) ptN) ?_;refine Rk (Ut (p:=[[120],[121,32,121]]) (H':=(tG shs ns true rs<|(Ec shs++ns.flatMap nmT)++[[116,97,98]]++[[120],[121,32,121]])++[.cells 58 TbC false,.cells 9 [.str [116,97,98]] false]) Z Z Z Z Z Z) Z bY134 Z (by repeat (first|exact pdN|refine pdC (cN Z) ?_|refine pdC (cY Z<|evY Z O) ?_)) ?_;refine Dm Z Z O Am<|A23 Z ?_;refine Wm ?_;refine hoN 1 (Nat.le_refl _) Nat.zero_lt_one<|Bw 4 (frC (frS hbk)<|frC (frS hsh)<|frC (frS Z)<|frC (Of (by simp[Nr,Nat.beq])) frN)<|fzC Z (Ap V)<|fzC Z (Oa V (by simp[Nr,Nat.beq]))<|fzC Z (Bg (v:=.row 6<|tlT true) Z)<|fI<|fI fzN
   ·refine Wm ?_;exact hoE () O<|Bw 4 (frC (frS hbk)<|frC (frS hsh)<|frC (frS Z)<|frC (Of Z) frN)<|fzC Z (Ap V)<|fzC Z (Oa V Z) fzN
 intro _ _;refine Wm ?_;refine ExM.lpH (σ:=Nat) (τ:=Unit) (λi=>⟨.al [(1,.ptr 0 0),(3,.hsl 1 3 0 (((Ec shs++ns.flatMap nmT)++Nr tb)++(rs.take i).flatMap rlT).length none),(72,.row 8<|rs.map rlV),(73,.int .i64 (((rs.map rlV).length:Nat):Int)),(74,.int .i64 ((i:Nat):Int))],(tG shs ns tb rs<|((Ec shs++ns.flatMap nmT)++Nr tb)++(rs.take i).flatMap rlT),88⟩) (λi=>i≤rs.length) (λi=>rs.length-i) 0 (λ_=>⟨.al [(1,.ptr 0 0),(3,.hsl 1 3 0 (Hg shs ns tb rs).length none)],(tG shs ns tb rs<|Hg shs ns tb rs),88⟩) (λ_=>True) (Bw 4 (frC (frS hbk)<|frC (frS hsh)<|frC (frS Z)<|frC (Of (by grind)) frN)<|fzC Z (Ap V)<|fzC Z (Oa V (by grind))<|fzC Z (Bg (v:=.row 8<|rs.map rlV)<|En _)<|fI<|fI fzN) (Nat.zero_le _) ?_ ?_
 ·intro i hi;by_cases hlt:i<rs.length;·have e8:=Ro (f:=rlT) rl0 hlt;have hb:=A4n (f:=rlT) rl0 hlt;have hi2:=Eg (f:=rlV) (l:=rs) (d:=rl0) (s:=⟨.al [(75,.bool true),(1,.ptr 0 0),(3,.hsl 1 3 0 (((Ec shs++ns.flatMap nmT)++Nr tb)++(rs.take i).flatMap rlT).length none),(72,.row 8<|rs.map rlV),(73,.int .i64 (((rs.map rlV).length:Nat):Int)),(74,.int .i64 ((i:Nat):Int))],(tG shs ns tb rs<|((Ec shs++ns.flatMap nmT)++Nr tb)++(rs.take i).flatMap rlT),88⟩) (G:=G) (x:=.tmp 72) (i:=.tmp 74) (k:=8) Z Z Z hlt;rw[rlV]at hi2;rw[rlT]at e8 hb;generalize rs.getD i rl0=p at hi2 e8 hb;simp only[lCo,lNi]at hb;refine Wm ?_;refine mS hi2 ?_ (hs:=by simp only[Ag,and_true];omega);refine Wm ?_;refine mS (v:=.hsl 1 5 0 1<|some 1) Z ?_;refine mS (Ut (p:=[p.f]) Z Z Z Z Z Z) ?_ (hs:=by simp only[Ag,and_true,C6,lAp,lCo,lNi];omega);refine Wm ?_;refine hoN (i+1) hlt Y (Bw 4 (frC (frS hbk)<|frC (frS hsh)<|frC (frS Z)<|frC (Of (by grind)) frN)<|fzC Z (Ap V)<|fzC Z (Oa V (by grind))<|fzC Z (Bg (v:=.row 8<|rs.map rlV)<|En _)<|fI<|fI fzN)
  ·have he:i=rs.length:=by omega
   subst he;refine Wm ?_;exact hoE () O<|Bw 4 (frC (frS hbk)<|frC (frS hsh)<|frC (frS Z)<|frC (Of (by rw[List.take_length];rfl)) frN)<|fzC Z (Ap V)<|fzC Z (Oa V (by rw[List.take_length];rfl)) fzN
 intro _ _;have hnoid:A1u 3 [.cells 34 (bkT shs ns tb rs) false,.cells 48 (A89 shs) false,.cells 9 [.str (shs.getD 0 ps0).nm] false,.cells 9 (C5<|Hg shs ns tb rs) true]=true:=by simp only[A1u,List.all_cons,List.all_nil,A9x,Hy _ hbk,Hy _ hsh,Hy _<|Cb _,Bool.and_true];rfl
 have hm:=Ad0 (H:=[.cells 34 (bkT shs ns tb rs) false,.cells 48 (A89 shs) false,.cells 9 [.str (shs.getD 0 ps0).nm] false,.cells 9 (C5<|Is (Hg shs ns tb rs)++List.replicate ((U8<|Hg shs ns tb rs).length-(Is<|Hg shs ns tb rs).length) []) false]) (id:=3) (l:=Is<|Hg shs ns tb rs) (c:=none) Z;refine ExM.cl (s1:=⟨.al [(3,.hsl 1 3 0 (Hg shs ns tb rs).length none)],[.cells 34 (bkT shs ns tb rs) false,.cells 48 (A89 shs) false,.cells 9 [.str (shs.getD 0 ps0).nm] false,.cells 9 (C5<|Hg shs ns tb rs) false],88⟩) (clMk (i:=3) (Nat.zero_le _) Z Z Z hnoid Z<|clH Z Ac8 clN) ?_;refine Wm ?_;refine mC Z (lSort (ss:=(Hg shs ns tb rs)) Z Z Y) ?_;refine Wm ?_;refine mC Z (A1r (ss:=U8<|Hg shs ns tb rs) Z (by simp[U8]) (by rw[U8,List.length_mergeSort];omega)<|Xw _ _) ?_;refine Wm ?_;exact A4 O Z Z hm.choose hm.choose_spec Z
theorem Hu {bd:Nat→Bz}:∀i,(Az bd<|i+1).length=(Az bd i).length+(9+(bd i).length):=λi=>by rw[Az,lAp,A3i]
def nmsL (b:Bool):List PNm:=cond b [⟨[82,97,116,101],-1,[61,83,33,36,65,36,49,43,49]⟩,⟨[111,119,110],0,[61,65,50,42,50]⟩] []
theorem nlN_map (b:Bool):nlN b=(nmsL b).map nmV:=by cases b<;>rfl
theorem Yt {L:List Bz}{s:Bz}(h:s∈Is L):s∈L:=by grind[Is,Lib.compactUpTo,U8,List.mergeSort_perm]
theorem Adb (L:List Bz):(Is L).length≤L.length:=Nat.le_trans (Xw _ _) (by rw[U8,List.length_mergeSort];omega)
theorem Ack (shs:List PSh):(Ec shs).length=shs.length+Eb shs:=by induction shs with|nil=>rfl|cons x r ih=>simp only[Ec,List.flatMap_cons,lAp,shT,lCo,List.length_map,Eb,List.map_cons,List.sum_cons]at ih⊢;omega
theorem Abr {T:List Bz}(h:∀s∈T,s.length≤200):(L3 T).length≤2+T.length*202:=by
 have:∀T:List Bz,(∀s∈T,s.length≤200)→(T.flatMap dcB).length≤T.length*202:=by intro T;induction T with|nil=>intro _;exact Nat.le_refl _|cons x r ih=>intro h;have h1:=ih λs hs=>h s<|List.mem_cons_of_mem _ hs;have h2:=h x<|List.mem_cons_self ..;simp only[List.flatMap_cons,lAp,dcB,Ao,lCo];omega
 grind[L3,Ao]
theorem A2s {ix:Bz→Nat}(shs:List PSh):(Hi ix shs).length=1+shs.length*4+Eb shs*4:=by
 have:(shs.flatMap<|shB ix).length=shs.length*4+Eb shs*4:=by induction shs with|nil=>rfl|cons x r ih=>simp only[List.flatMap_cons,lAp,A0q,lCo,Eb,List.map_cons,List.sum_cons]at ih⊢;omega
 grind[Hi,Ao]
theorem txOK {shs:List PSh}{n:Nat}{nb tb:Bool}{rs:List PRl}(hS:ShG W0 n 30 shs)(hn:n≤3)(hR:∀r∈rs,Xu W0 n r){s:Bz}(h:s∈Hg shs (nmsL nb) tb rs):s≠[]∧s.length≤200:=by
 have hI:∀{t:Bz},Xm W0 t→t≠[]∧t.length≤200:=λh=>⟨h.1,h.2.elim (λh=>h.2.1)<|λh=>h.1⟩;have hG:∀{t:Bz},Pz W0 t→t≠[]∧t.length≤200:=λ{t} h=>⟨by obtain⟨_,u,l,e,_⟩:=h;rw[e];simp,h.1⟩;simp only[Hg,List.mem_append]at h;rcases h with((h|h)|h)|h
 ·simp only[Ec,List.mem_flatMap,shT,List.mem_cons,List.mem_map]at h;obtain⟨x,hx,h⟩:=h;rcases h with rfl|⟨c,hc,rfl⟩
  ·have h1:x.nm∈A7q n:=by rw[←hS.ok.nm];grind
   simp only[A7q,List.mem_map,List.mem_range]at h1;obtain⟨k,hk,e⟩:=h1;rw[←e];have:k=0∨k=1∨k=2:=Y;rcases this with rfl|rfl|rfl<;>exact⟨V,V⟩
  ·exact hI (hS.ok.ok x hx c hc).2.2
 ·cases nb with
  |false=>cases h
  |true=>simp only[nmsL,cond_true,List.flatMap_cons,List.flatMap_nil,nmT,List.mem_append,List.mem_cons,List.not_mem_nil,or_false]at h;rcases h with(rfl|rfl)|(rfl|rfl)<;>exact⟨V,V⟩
 ·cases tb with
  |false=>cases h
  |true=>simp only[Nr,cond_true,List.mem_cons,List.not_mem_nil,or_false]at h;rcases h with rfl|rfl|rfl<;>exact⟨V,V⟩
 ·simp only[List.mem_flatMap,rlT,List.mem_singleton]at h;obtain⟨r,hr,rfl⟩:=h;exact hG (hR r hr).f
def bdG (shs:List PSh)(ns:List PNm)(tb:Bool)(rs:List PRl):Nat→Bz
 |0=>L3 (Is<|Hg shs ns tb rs)|1=>Hi (ixN<|Is<|Hg shs ns tb rs) shs|2=>Aa9 (ixN<|Is<|Hg shs ns tb rs) (ns.map nmV).length ns|3=>tabB (ixN<|Is<|Hg shs ns tb rs) tb|_=>Ad7 (ixN<|Is<|Hg shs ns tb rs) (rs.map rlV).length rs
theorem encG (hk:Kn W0){b:RB}{v:AVal}(h:A73 W0 b v):∃bd,(∀i,i<5→bd i≠[])∧(Wb bd).length≤200000∧cP W0 5 [v] [] (.tup [.str<|Wb bd,.int .i64 0]) []:=by
 have hg:=grK hk;have hck:=checkB hk h;obtain⟨n,shs,rs,hn,rfl,hS,h4,hR⟩:=h;have hln:=hS.len;have hmn:=hS.many;have hcl:=hS.ok;rw[wbV,nlN_map]at hck⊢;generalize htb:b.tb=tb at hck;generalize hnb:nmsL b.nm=ns at hck;have hT:∀s∈Hg shs ns tb rs,s≠[]∧s.length≤200:=λs hs=>by grind[txOK]
 have hns:ns.length≤2∧∀i,i<ns.length→∃s:Nat,(ns.getD i pn0).a+1=s∧s<1000:=by
  subst hnb;cases b.nm with
  |false=>exact⟨V,λi hi=>by cases hi⟩
  |true=>exact⟨V,λi hi=>by
   have:i=0∨i=1:=by have:i<2:=hi;omega
   rcases this with rfl|rfl;·exact⟨0,Z,V⟩
   ·exact⟨1,Z,V⟩⟩
 have hL:(Hg shs ns tb rs).length≤60:=by
  have a1:=Ack shs;have a2:(ns.flatMap nmT).length=ns.length*2:=by
   have:∀l:List PNm,(l.flatMap nmT).length=l.length*2:=λl=>by induction l with|nil=>rfl|cons x r ih=>simp only[List.flatMap_cons,lAp,nmT,lCo,lNi]at ih⊢;omega
   grind
  have a3:(Nr tb).length≤3:=by cases tb<;>decide
  have a4:(rs.flatMap rlT).length=rs.length:=by
   have:∀l:List PRl,(l.flatMap rlT).length=l.length:=λl=>by induction l with|nil=>rfl|cons x r ih=>simp only[List.flatMap_cons,lAp,rlT,lCo,lNi]at ih⊢;omega
   grind
  grind[Hg]
 have hTl:=Adb<|Hg shs ns tb rs;have hne:∀i,i<(Is<|Hg shs ns tb rs).length→(Is<|Hg shs ns tb rs).getD i []≠[]:=λi hi=>(hT _<|Yt<|Hm hi).1;have hix:∀q,ixN (Is<|Hg shs ns tb rs) q<9223372036854775808:=λq=>by rcases(Qp (ss:=Is<|Hg shs ns tb rs) q).2 with h|h<;>omega
 have hbk:∀n,Ab n (bkT shs ns tb rs)=true:=λn=>by
  have h1:Ab n (tlT tb)=true:=by cases tb<;>rfl
  simp only[Ab,blw,Br,Ge,En,h1,cond_true]
 have l0:(bdG shs ns tb rs 0).length≤20000:=by have:=Abr (T:=Is<|Hg shs ns tb rs) λs hs=>(hT s<|Yt hs).2;show(L3 _).length≤_;omega
 have l1:(bdG shs ns tb rs 1).length≤20000:=by show(Hi _ shs).length≤_;rw[A2s];omega
 have l2:(bdG shs ns tb rs 2).length≤20000:=by show(Aa9 _ _ ns).length≤_;rw[Aa9,lAp,lAp,lAp,Ao,Dy A0b,Dy Zo,Dy A6h];omega
 have l3:(bdG shs ns tb rs 3).length≤20000:=by
  show(tabB _ tb).length≤_;cases tb;·show(Ae 1 0++[]).length≤_;decide
  ·show(Ae 1 1++_).length≤_;simp_all[Ao,Ja,H8]
 have l4:(bdG shs ns tb rs 4).length≤20000:=by show(Ad7 _ _ rs).length≤_;rw[Ad7,lAp,Ao,Dy A7i];omega
 have hne5:∀i,i<5→bdG shs ns tb rs i≠[]:=λi hi=>by grind[bdG,L3,Ae,Hi,Aa9,tabB,Ad7]
 have hsz:∀i,i<5→(D3++Az (bdG shs ns tb rs) (i+1)).length≤200000:=λi hi=>by have z:(Az (bdG shs ns tb rs) 0).length=0:=rfl;have s0:(Az (bdG shs ns tb rs) 1).length=_:=Hu 0;have s1:(Az (bdG shs ns tb rs) 2).length=_:=Hu 1;have s2:(Az (bdG shs ns tb rs) 3).length=_:=Hu 2;have s3:(Az (bdG shs ns tb rs) 4).length=_:=Hu 3;have s4:(Az (bdG shs ns tb rs) 5).length=_:=Hu 4;have hm:D3.length=4:=rfl;grind
 have hf:cP W0 14 [.agg<|bkT shs ns tb rs] [] (.str<|Wb<|bdG shs ns tb rs) []:=by
  refine fileG hg hbk Y (textsG hg Y Y) (λi hi=>Nat.le_trans (hsz i hi) V)<|λi hi=>?_;have:i=0∨i=1∨i=2∨i=3∨i=4:=Y;rcases this with rfl|rfl|rfl|rfl|rfl;·exact⟨47,[.ptr 1 0],_,_,Z,hne5 0 V,λol=>liftD hbk (λn=>by show cond (Ab n<|C5 _) true false=true;rw[Cb];rfl)<|dictF hg hbk hne<|Nat.le_trans l0 V⟩
  ·exact⟨49,[],_,_,Z,hne5 1 V,λol=>A6n hbk<|sheetsP hg (λn=>by simp_all[Ab]) (λi hi=>(Qp _).1) (λi hi j hj=>⟨(Qp _).1,by have:=hcl.ok _ (Hm (d:=ps0) hi) _<|Hm (d:=pc0) hj;have:=this.1;omega,by have:=hcl.ok _ (Hm (d:=ps0) hi) _<|Hm (d:=pc0) hj;have:=this.2.1;omega⟩) hix<|Nat.le_trans l1 V⟩
  ·exact⟨50,[],_,_,Z,hne5 2 V,λol=>A6n hbk<|namedW hg hbk Y (λi hi=>⟨hns.2 i hi,(Qp _).1,(Qp _).1⟩) hix⟩
  ·exact⟨51,[],_,_,Z,hne5 3 V,λol=>A6n hbk<|tablesW hg tb hbk (λs _=>(Qp _).1) hix⟩
  ·exact⟨52,[],_,_,Z,hne5 4 V,λol=>A6n hbk (rulesW hg hbk Y (λi hi=>⟨by
   have hr:=hR _<|Hm (d:=rl0) hi;generalize rs.getD i rl0=r at hr;obtain⟨⟨a1,a2⟩,⟨b1,b2⟩,⟨c1,c2⟩,⟨d1,d2⟩,⟨e1,e2⟩,_,g⟩:=hr;have g1:0≤r.g∧r.g<1000:=Y
   exact⟨r.a.toNat,r.b.toNat,r.c.toNat,r.d.toNat,r.e.toNat,r.g.toNat,Y,Y,Y,Y,Y,Y,Y,Y,Y,Y,Y,Y⟩,(Qp _).1⟩) hix)⟩
 refine⟨bdG shs ns tb rs,hne5,hsz 4 V,?_⟩;have hA:Ab 0 [.agg<|bkT shs ns tb rs]=true:=by show cond (Ab 0<|bkT shs ns tb rs) true false=true;grind
 have c1:=λH=>A5.pure (W0:=W0) (P:=Tryz.prog) hA Z hck H;have c2:=λH=>A5.pure (W0:=W0) (P:=Tryz.prog) hA Z hf H;show cP W0 5 [.agg<|bkT shs ns tb rs] [] (.tup [.str<|Wb<|bdG shs ns tb rs,.int .i64 0]) [];refine goW 5 16 0 ?_;refine Wm ?_;exact We
end Go.Abs
namespace Go.Abs
open Go.Proofs Go.RowKit
set_option maxRecDepth 100000
theorem idle23 :Ud Tryz.prog 22 3:=by
 intro args w hl;obtain⟨a,b,c,rfl⟩:∃a b c,args=[a,b,c]:=by match args,hl with| [a,b,c],_=>grind
 have hn:∀w:World,(binOp BinOp.neq 20 .nilIface .nilIface).run Tryz.prog w= .ok (.bool false) w:=λ_=>Am;refine callsD_of_wpS Tryz.func22 Z λc₀ cs hu=>?_;apply wpS_seq;apply wpS_region;simp[wpOpsS,go_sem,recoverD,hu,Tryz.ntmps22,Exit.thenS];apply wpS_seq;apply wpS_region;simp[wpOpsS,go_sem,Exit.thenS,Array.replicate,hn];refine wpS_cond (t:=false) (by simp[Act.eval]) ?_;simp only[bFt,if_false];refine wpS_of_wp<|wp_skip ?_;cases c₀;simp_all[bodyPostS,results]
theorem idle71 :Ud Tryz.prog 61 2:=by
 intro args w hl;obtain⟨a,b,rfl⟩:∃a b,args=[a,b]:=by match args,hl with| [a,b],_=>grind
 have hn:∀w:World,(binOp BinOp.neq 20 .nilIface .nilIface).run Tryz.prog w= .ok (.bool false) w:=λ_=>Am;refine callsD_of_wpS Tryz.func61 Z λc₀ cs hu=>?_;apply wpS_seq;apply wpS_region;simp[wpOpsS,go_sem,recoverD,hu,Tryz.ntmps61,Exit.thenS];apply wpS_seq;apply wpS_region;simp[wpOpsS,go_sem,Exit.thenS,Array.replicate,hn];refine wpS_cond (t:=false) (by simp[Act.eval]) ?_;simp only[bFt,if_false];refine wpS_of_wp<|wp_skip ?_;cases c₀;simp_all[bodyPostS,results]
end Go.Abs
namespace Go.Abs
open Go.Proofs Go.RowKit
set_option maxRecDepth 100000
variable {W0 : World}
def cc122 (H:Hz):List AVal→Option (AVal×Hz)
 | [.ptr id 0]=>match H[id]? with
  |some (.cells T (.nilPtr::r) false)=>cond (Nat.beq T 108&&Nat.beq r.length 2) (some (.tup [],H.set id<|.cells T (.ptr id 0::r) false)) none|some (.cells _ (.ptr id' 0::_) false)=>cond (Nat.beq id' id) (some (.tup [],H)) none|_=>none
 |_=>none
def Acv :List AVal→Option Bz
 | []=>some []
 |.int .u8 (.ofNat n)::r=>cond (Nat.blt n 256) (match Acv r with
  |some l=>some (UInt8.ofNat n::l)|none=>none) none
 |_=>none
theorem A65 :∀{cs:List AVal}{l:Bz},Acv cs=some l→cs=u8c l
 | [],l,h=>by simp only[Acv,iS]at h;subst h;rfl
 |.int k n::r,l,h=>by
  unfold Acv at h;split at h;·grind
  ·rename_i n' r' heq;injection heq with h1 h2;injection h1 with h3 h4;subst h2;subst h3;subst h4;cases hn:Nat.blt n' 256 with
   |false=>rw[hn]at h;cases h
   |true=>
    rw[hn,cond_true]at h;split at h;·rename_i l' hl';injection h with h;subst h;rw[A65 hl'];grind[Nat.blt_eq,u8c,UInt8.toNat_ofNat']
    ·cases h
  ·cases h
 |.bool _::_,_,h|.str _::_,_,h|.agg _::_,_,h|.tup _::_,_,h|.nilSl::_,_,h|.emp::_,_,h|.row _ _::_,_,h|.hsl _ _ _ _ _::_,_,h|.nilPtr::_,_,h|.ptr _ _::_,_,h|.optr _ _ _::_,_,h|.eptr _ _::_,_,h|.fn _ _ _::_,_,h|.nilFn::_,_,h|.iface _ _::_,_,h|.nilIf::_,_,h|.mref _::_,_,h|.nilMp::_,_,h=>I5
def str68 (H:Hz):List AVal→Option (AVal×Hz)
 | [.ptr id 0]=>match H[id]? with
  |some (.cells _ (_:: .hsl 1 jd 0 n _::_) false)=>match H[jd]? with
   |some (.cells TB cs true)=>match Acv cs with
    |some l=>cond (Nat.beq (A01 TB) 5&&(Nat.beq n l.length&&Nat.ble 1 n)) (some (.str l,H.set jd<|.cells (tgT TB) cs true)) none|none=>none
   |_=>none
  |_=>none
 |_=>none
def A9b (H:Hz):List AVal→Option (AVal×Hz)
 | [.hsl 1 id 0 1 _]=>match H[id]? with
  |some (.cells _ [.str _] false)=>some (.tup [],H)|_=>none
 |_=>none
def Aak (H:Hz):List AVal→Option (AVal×Hz)
 | [.hsl 1 id 0 1 _]=>match H[id]? with
  |some (.cells _ [.str _] false)=>some (.hsl 1 id 0 1 none,H)|_=>none
 |_=>none
def tabW :CallF:=λf args H=>cond (Nat.beq f 86) (cc122 H args)<|cond (Nat.beq f 55) (str68 H args)<|cond (Nat.beq f 84) (A9b H args)<|cond (Nat.beq f 85) (Aak H args) none
theorem A3e {H:Hz}{id:Nat}{o:HObj}(h:H[id]?=some o):H.set id o=H:=by grind[List.set_getElem_self]
theorem tabW_ok (_hk:Kn W0):E6 Tryz.prog W0 tabW:=λf args H v H' h=>by
 unfold tabW at h;cases h1:Nat.beq f 86 with
 |true=>
  have:=nBq h1;subst this;rw[h1,cond_true]at h;unfold cc122 at h;split at h
  ·rename_i id;split at h
   ·rename_i T r ho;cases hc:(Nat.beq T 108&&Nat.beq r.length 2)with
    |false=>rw[hc]at h;cases h
    |true=>rw[hc,cond_true]at h;injection h with h;injection h with e1 e2;subst e1;subst e2;simp only[bAt]at hc;have e3:=nBq hc.1;have e4:=nBq hc.2;subst e3;exact ccPT ho (by rw[e4];kernel_rfl) Am
   ·rename_i T id' r ho;cases hc:Nat.beq id' id with
    |false=>rw[hc]at h;cases h
    |true=>rw[hc,cond_true]at h;injection h with h;injection h with e1 e2;subst e1;subst e2;have e3:=nBq hc;subst e3;exact A9p ho
   ·cases h
  ·cases h
 |false=>
  rw[h1,cond_false]at h;cases h2:Nat.beq f 55 with
  |true=>
   have:=nBq h2;subst this;rw[h2,cond_true]at h;unfold str68 at h;split at h
   ·rename_i id;split at h
    ·rename_i T c0 jd n cp r ho;split at h
     ·rename_i TB cs hj;split at h
      ·rename_i l hl;have hcs:=A65 hl;subst hcs;cases hc:(Nat.beq (A01 TB) 5&&(Nat.beq n l.length&&Nat.ble 1 n))with
       |false=>rw[hc]at h;cases h
       |true=>rw[hc,cond_true]at h;injection h with h;injection h with e1 e2;subst e1;subst e2;simp only[bAt]at hc;have e3:=nBq hc.2.1;have e4:=Nat.le_of_ble_eq_true hc.2.2;exact strU ho hj e3 (λe=>by grind)<|nBq hc.1
      ·cases h
     ·cases h
    ·cases h
   ·cases h
  |false=>
   rw[h2,cond_false]at h;cases h3:Nat.beq f 84 with
   |true=>
    have:=nBq h3;subst this;rw[h3,cond_true]at h;unfold A9b at h;split at h
    ·rename_i id cp;split at h;·rename_i T x ho;injection h with h;injection h with e1 e2;subst e1;subst e2;have q:=lSort (W0:=W0) (cp:=cp) (ss:=[x]) (n:=1) ho Z (show 1<1000000 by decide);grind[List.mergeSort,C5,A3e]
     ·cases h
    ·cases h
   |false=>
    rw[h3,cond_false]at h;cases h4:Nat.beq f 85 with
    |false=>rw[h4]at h;cases h
    |true=>
     have:=nBq h4;subst this;rw[h4,cond_true]at h;unfold Aak at h;split at h
     ·rename_i id cp;split at h;·rename_i T x ho;injection h with h;injection h with e1 e2;subst e1;subst e2;have e:Lib.compactUpTo #[x] 1=[x]:=F6;have q:=A1r (W0:=W0) (cp:=cp) (ss:=[x]) (n:=1) ho Z (show 1<1000000 by decide) (by grind);have e0:Lib.compactUpTo ([x]:List Bz).toArray ([x]:List Bz).length=[x]:=F6;simp_all[C5,A3e]
      ·cases h
     ·cases h
def idleA (g:Nat):Option Nat:=cond (Nat.beq g 22) (some 3)<|cond (Nat.beq g 61) (some 2) none
def tabP (l:List Ent):CallF:=λf args H=>match tabW f args H with
 |some r=>some r|none=>Yp l f args H
theorem tabP_ok (hk:Kn W0){l:List Ent}(hl:∀e∈l,D2 Tryz.prog W0 e):E6 Tryz.prog W0 (tabP l):=λf args H v H' h=>by
 unfold tabP at h;split at h;·rename_i r hr;injection h with h;subst h;exact tabW_ok hk _ _ _ _ _ hr
 ·exact W6 hl _ _ _ _ _ h
noncomputable def Qu (l:List Ent)(d:Nat):CallF:=Io Tryz.prog GL Hr idleA (tabP l) (λcall ops s=>Z2 Tryz.prog GL call ops s) 1000 d
theorem J5 (hk:Kn W0){l:List Ent}(hl:∀e∈l,D2 Tryz.prog W0 e)(d:Nat):E6 Tryz.prog W0 (Qu l d):=by
 refine Rj hk.g (λg m h=>?_) (tabP_ok hk hl) (λcall hc=>A41 Am hk.g hc) 1000 d;unfold idleA at h;cases h1:Nat.beq g 22 with
 |true=>rw[h1,cond_true]at h;injection h with h;subst h;have:=nBq h1;subst this;exact⟨idle23,Ez Am⟩
 |false=>
  rw[h1,cond_false]at h;cases h2:Nat.beq g 61 with
  |false=>rw[h2]at h;cases h
  |true=>rw[h2,cond_true]at h;injection h with h;subst h;have:=nBq h2;subst this;exact⟨idle71,Ez Am⟩
theorem Ac1 (hk:Kn W0){l:List Ent}(hl:∀e∈l,D2 Tryz.prog W0 e){d f:Nat}{args:List AVal}{v:AVal}(h:Qu l d f args []=some (v,[]))(h1:Ab 0 args=true)(h2:blw 0 v=true):D2 Tryz.prog W0 ⟨f,args,v⟩:=⟨h1,h2,J5 hk hl d _ _ _ _ _ h⟩
end Go.Abs
namespace Go.Abs
open Go.Proofs Go.RowKit
set_option maxRecDepth 10000000
variable {W0 : World}
def Q5 :Bz:=[84,66,76,49,1,0,0,0,5,0,1,0,1,83,16,23,24,121,2,0,0,0,5,1,0,0,0,0,19,26,24,42,3,0,0,0,1,0,0,0,1,2,4,0,0,0,1,0,0,0,1,2,5,0,0,0,1,0,0,0,1,2]
def bkA :AVal:=.agg [.row 2 [.agg [.str [83],.nilSl]],.nilSl,.nilSl,.nilSl]
def bkB :AVal:=.agg [.row 2 [.agg [.str [83],.row 3 []]],.row 3 [],.nilSl,.nilSl]
def bkZ :AVal:=.agg Tu
def awe0 :Ent:=⟨5,[bkA],.tup [.str Q5,.int .i64 0]⟩
theorem awr0 :Qu [] 60 5 [bkA] []=some (.tup [.str Q5,.int .i64 0],[]):=Am
theorem awk0 (hk:Kn W0):D2 Tryz.prog W0 awe0:=Ac1 hk Dj awr0 Am Am
def awe1 :Ent:=⟨5,[bkB],.tup [.str Q5,.int .i64 0]⟩
theorem awr1 :Qu [] 60 5 [bkB] []=some (.tup [.str Q5,.int .i64 0],[]):=Am
theorem awk1 (hk:Kn W0):D2 Tryz.prog W0 awe1:=Ac1 hk Dj awr1 Am Am
def awe2 :Ent:=⟨9,[.str Q5],.tup [bkB,.int .i64 0,.int .i64 0]⟩
theorem awr2 :Qu [awe1] 60 9 [.str Q5] []=some (.tup [bkB,.int .i64 0,.int .i64 0],[]):=Am
theorem awk2 (hk:Kn W0):D2 Tryz.prog W0 awe2:=Ac1 hk (K6 (awk1 hk) Dj) awr2 Am Am
def awe3 :Ent:=⟨5,[bkZ],.tup [.str [],.int .i64 96]⟩
theorem awr3 :Qu [] 60 5 [bkZ] []=some (.tup [.str [],.int .i64 96],[]):=Am
theorem awk3 (hk:Kn W0):D2 Tryz.prog W0 awe3:=Ac1 hk Dj awr3 Am Am
def awe4 :Ent:=⟨12,[bkA,bkB],.bool true⟩
theorem awr4 :Qu [] 60 12 [bkA,bkB] []=some (.bool true,[]):=Am
theorem awk4 (hk:Kn W0):D2 Tryz.prog W0 awe4:=Ac1 hk Dj awr4 Am Am
end Go.Abs
namespace Go.Abs
open Go.Proofs Go.RowKit
set_option maxRecDepth 100000
variable {W0 : World} {G : List (Nat × AVal)}
def hD (s:Bz)(n:Nat):Hz:=[.cells 34 Tu false,.cells 3 [.int .i64 0] false,.cells 26 [.int .i64 0] false,.cells 78 [.str s,.int .i64 ((n:Nat):Int),.nilSl] false]
def pv (n e:Nat):AVal:=.iface 74<|.agg [.int .i64 ((n:Nat):Int),.int .i64 ((e:Nat):Int)]
theorem wr_1 (hk:Kn W0):cP W0 59 [.ptr 3 0,.int .i64 1] ((hD [84,66,76,88] 0)) (.str [84]) (hD [84,66,76,88] 1):=J5 hk Dj 60 _ _ _ _ _ (show Qu [] 60 59 [.ptr 3 0,.int .i64 1] ((hD [84,66,76,88] 0))=some (.str [84],hD [84,66,76,88] 1)by kernel_rfl)
theorem wr_2 (hk:Kn W0):cP W0 59 [.ptr 3 0,.int .i64 1] ((hD [84,66,76,88] 1)) (.str [66]) (hD [84,66,76,88] 2):=J5 hk Dj 60 _ _ _ _ _ (show Qu [] 60 59 [.ptr 3 0,.int .i64 1] ((hD [84,66,76,88] 1))=some (.str [66],hD [84,66,76,88] 2)by kernel_rfl)
theorem wr_3 (hk:Kn W0):cP W0 59 [.ptr 3 0,.int .i64 1] ((hD [84,66,76,88] 2)) (.str [76]) (hD [84,66,76,88] 3):=J5 hk Dj 60 _ _ _ _ _ (show Qu [] 60 59 [.ptr 3 0,.int .i64 1] ((hD [84,66,76,88] 2))=some (.str [76],hD [84,66,76,88] 3)by kernel_rfl)
theorem wr_4 (hk:Kn W0):cP W0 59 [.ptr 3 0,.int .i64 1] ((hD [84,66,76,88] 3)) (.str [88]) (hD [84,66,76,88] 4):=J5 hk Dj 60 _ _ _ _ _ (show Qu [] 60 59 [.ptr 3 0,.int .i64 1] ((hD [84,66,76,88] 3))=some (.str [88],hD [84,66,76,88] 4)by kernel_rfl)
theorem p24 (hk:Kn W0)(hg:hGr W0 G):Og Tryz.prog W0 23 [.ptr 3 0,.str [84,66,76,49]] (hD [84,66,76,88] 0) (pv 3 250) (hD [84,66,76,88] 4):=by refine goP 23 26 ?_;refine ExP.seqR ?_;refine oM<|x3 Z Z Z ?_;refine⟨Z,?_⟩;refine ExP.block ?_;refine ExP.loop 4 ?_;refine .inr ?_;refine sO<|mBk hg gN (c:=true) Z Z Z<|mn<|sq<|cT Z<|kM<|sq<|bM<|sO<|x2 Z Z<|sq ?_;refine ExM.draw1 hg 1 Z ?_;refine Ip Z Z O<|Abu Z Z Z (wr_1 hk)<|Ip Z Z O<|Ip Z Z O<|Ip Z Z O<|wKv (v:=.int .i64 1) Z Z (by simp_all[Ag]) Z<|Ip (v:=.str [84]) Z Z (by grind[B3,Ag])<|wBk (c:=false) Z Z Z<|A9a<|?_;refine cF Z<|kM<|oM<|mKs (v:=.int .i64 1) Z Z<|x1 Z ?_;refine⟨Z,?_⟩;refine .inr ?_;refine sO<|mBk hg gN (c:=true) Z Z Z<|mn<|sq<|cT Z<|kM<|sq<|bM<|sO<|x2 Z Z<|sq ?_;refine ExM.draw1 hg 1 Z ?_;refine Ip Z Z O<|Abu Z Z Z (wr_2 hk)<|Ip Z Z O<|Ip Z Z O<|Ip Z Z O<|wKv (v:=.int .i64 2) Z Z (by simp_all[Ag]) Z<|Ip (v:=.str [66]) Z Z (by grind[B3,Ag])<|wBk (c:=false) Z Z Z<|A9a<|?_;refine cF Z<|kM<|oM<|mKs (v:=.int .i64 2) Z Z<|x1 Z ?_;refine⟨Z,?_⟩;refine .inr ?_;refine sO<|mBk hg gN (c:=true) Z Z Z<|mn<|sq<|cT Z<|kM<|sq<|bM<|sO<|x2 Z Z<|sq ?_;refine ExM.draw1 hg 1 Z ?_;refine Ip Z Z O<|Abu Z Z Z (wr_3 hk)<|Ip Z Z O<|Ip Z Z O<|Ip Z Z O<|wKv (v:=.int .i64 3) Z Z (by simp_all[Ag]) Z<|Ip (v:=.str [76]) Z Z (by grind[B3,Ag])<|wBk (c:=false) Z Z Z<|A9a<|?_;refine cF Z<|kM<|oM<|mKs (v:=.int .i64 3) Z Z<|x1 Z ?_;refine⟨Z,?_⟩;refine .inl ?_;refine ExP.seqR ?_;refine oM<|mBk hg gN (c:=true) Z Z Z<|mn ?_;refine⟨Z,?_⟩;refine ExP.seqR ?_;refine cT Z<|kM ?_;refine⟨Z,?_⟩;refine ExP.seqL ?_;refine ExP.block ?_;refine ExP.seqR ?_;refine oM<|x2 Z Z ?_;refine⟨Z,?_⟩;refine ExP.seqR ?_;refine ExM.draw1 hg 1 Z ?_;refine Ip Z Z O<|Abu Z Z Z (wr_4 hk)<|Ip Z Z O<|Ip Z Z O<|Ip Z Z O<|wKv (v:=.int .i64 4) Z Z (by simp_all[Ag]) Z<|Ip (v:=.str [49]) Z Z (by grind[B3,Ag])<|wBk (c:=true) Z Z Z<|A9a<|?_;refine⟨Z,?_⟩;refine ExP.condT hg Z ?_;refine ExP.ops hg ?_;refine Gi hg gN Z Z O<|Gi hg gN Z Z O<|Gi hg gN Z Z O<|Gi hg gN Z Z O<|Gi hg gN Z Z O<|Gi hg gN Z Z O<|Gi hg gN Z Z O<|pPan hg Z Z
theorem p69 (hg:hGr W0 G):Og Tryz.prog W0 59 [.ptr 3 0,.int .i64 4] (hD [84,66,76,49,1] 5) (pv 5 252) (hD [84,66,76,49,1] 5):=by refine goP 59 47 ?_;refine ExP.seqR ?_;refine oM<|x1 Z ?_;refine⟨Z,?_⟩;refine ExP.seqL ?_;refine ExP.seqR ?_;refine ExM.draw hg ?_;refine qV Z<|qV Z<|qV Z<|qV Z<|qV Z<|qV Z<|qV Z<|qV Z<|qV Z<|qV Z<|qV Z<|qBk (c:=true) Z Z Z ?_;refine Dl<|?_;refine⟨Z,?_⟩;refine ExP.condT hg Z ?_;refine ExP.ops hg ?_;refine Gi hg gN Z Z O<|Gi hg gN Z Z O<|Gi hg gN Z Z O<|Gi hg gN Z Z O<|Gi hg gN Z Z O<|Gi hg gN Z Z O<|Gi hg gN Z Z O<|pPan hg Z Z
theorem p70 (hg:hGr W0 G):Og Tryz.prog W0 60 [.ptr 3 0,.int .i64 4] (hD [84,66,76,49,1] 5) (pv 5 252) (hD [84,66,76,49,1] 5):=by refine goP 60 23 ?_;refine ExP.seqR ?_;refine oM<|x1 Z ?_;refine⟨Z,?_⟩;refine ExP.seqL ?_;refine ExP.seqL ?_;refine ExP.ops hg ?_;refine Gi hg gN Z Z O<|Gi hg gN Z Z O<|Ym hg Z (p69 hg) Z
theorem wr_5 (hk:Kn W0):cP W0 23 [.ptr 3 0,.str [1]] ((hD [84,66,76,49,1] 4)) (.tup []) (hD [84,66,76,49,1] 5):=J5 hk Dj 60 _ _ _ _ _ (show Qu [] 60 23 [.ptr 3 0,.str [1]] ((hD [84,66,76,49,1] 4))=some (.tup [],hD [84,66,76,49,1] 5)by kernel_rfl)
theorem p25 (hk:Kn W0)(hg:hGr W0 G):Og Tryz.prog W0 24 [.ptr 3 0,.int .i64 1] (hD [84,66,76,49,1] 4) (pv 5 252) (hD [84,66,76,49,1] 5):=by refine goP 24 29 ?_;refine ExP.seqR ?_;refine oM<|x1 Z ?_;refine⟨Z,?_⟩;refine ExP.seqR ?_;refine oM<|m4 Z Z Z Z<|mC Z (wr_5 hk)<|mn ?_;refine⟨Z,?_⟩;refine ExP.seqL ?_;refine ExP.ops hg ?_;refine Gi hg gN Z Z O<|Gi hg gN Z Z O<|Ym hg Z (p70 hg) Z
def wr23 :ACode:=(sQ [⟨(some 7),none,(.move 3)⟩,⟨(some 8),none,(.bin .neq (some<|.interface #[]) 7<|.val<|.nilIf)⟩]<|.cond 8 (sQ [⟨(some 10),none,(.move 3)⟩,⟨(some 11),none,(.tas 74 10)⟩,⟨(some 9),none,(.move 11)⟩,⟨(some 12),none,(.extract 9 0)⟩,⟨(some 13),none,(.extract 9 1)⟩,⟨(some 4),none,(.alloc 74 [(.int .i64 0),(.int .i64 0)])⟩,yN<|(.store 2 4 12),⟨(some 5),none,(.move 13)⟩]<|.seq (sQ [⟨(some 14),none,(.move 5)⟩,⟨(some 15),none,(.un .not 14)⟩]<|.cond 15 (.ops [⟨(some 16),none,(.move 3)⟩,yN<|(.pan 16)]) .skip)<|.drawC [⟨(some 17),none,(.build Tu [])⟩,⟨(some 18),none,(.fieldAddr 0 4)⟩,⟨(some 19),none,(.load 1 false 18)⟩,⟨(some 20),none,(.fieldAddr 1 4)⟩,⟨(some 21),none,(.load 1 false 20)⟩,yN<|(.store 4 0 17),yN<|(.store 1 1 19),yN<|(.store 1 2 21)] ⟨8,[0,1,1,1,1,2,2,2],[0,0,2,0,8,1,39,127],[0,32,96,224]⟩) .skip)
theorem Aai (hg:hGr W0 G){s:Bz}{n a e:Nat}:Xy Tryz.prog W0 22 [.ptr 0 0,.ptr 1 0,.ptr 2 0] (pv a e) (hD s n) [.cells 34 Tu false,.cells 3 [.int .i64 ((a:Nat):Int)] false,.cells 26 [.int .i64 ((e:Nat):Int)] false,.cells 78 [.str s,.int .i64 ((n:Nat):Int),.nilSl] false,.cells 74 [.int .i64 ((a:Nat):Int),.int .i64 ((e:Nat):Int)] false]:=by refine Xy.of2 (ar:=wr23) (t:=6) (t2:=3) (n:=22) Tryz.func22 Z Z Z Z Z (λ_ _=>Z) (λ_ _=>Z) Am Z Ax Z Z Z ?_;refine sO<|mV Z<|mBk hg gN (c:=true) Z Z Z<|mn<|cT Z<|sO<|m2 Z Z<|m4 Z Z Z Z<|Ah hg gN Z<|x1 Z<|sq<|sO<|mV Z<|mBk hg gN (c:=false) Z Z Z<|mn<|cF Z<|kM ?_;refine ExM.drawC hg ?_;refine Dm Z Z O Am<|Dm Z Z O Am<|Dm Z Z O Am<|Dm Z Z O Am<|Dm Z Z O Am<|R5 Z Z (pdC (cY (by show SP.mayB _ 32 4=true;rfl)<|evY Z O)<|pdC (cY (by show SP.mayB _ 32 3=true;rfl)<|evY Z O)<|pdC (cY (by show SP.mayB _ 32 2=true;rfl)<|evY Z O)<|pdC (cY Abd<|evY Z O) pdN)<|?_;refine R5 Z Z (pdC (cY (by show SP.mayB _ 96 4=true;rfl)<|evY Z O)<|pdC (cY (by show SP.mayB _ 96 3=true;rfl)<|evY Z O)<|pdC (cN (by show SP.mayB _ 96 2=false;rfl))<|pdC (cN (by show SP.mayB _ 96 1=false;rfl)) pdN)<|R5 Z Z (pdC (cN (by show SP.mayB _ 224 4=false;rfl))<|pdC (cN (by show SP.mayB _ 224 3=false;rfl))<|pdC (cN (by show SP.mayB _ 224 2=false;rfl))<|pdC (cN (by show SP.mayB _ 224 1=false;rfl)) pdN)<|A23 Z<|?_;exact⟨O,Z⟩
def wa0 :ACode:=(.ops [⟨(some 2),none,(.alloc 34 Tu)⟩,⟨(some 3),none,(.alloc 3 [(.int .i64 0)])⟩,⟨(some 4),none,(.alloc 26 [(.int .i64 0)])⟩])
def wa1 :ACode:=(sQ [⟨(some 12),none,(.move 0)⟩,⟨(some 13),none,(.len true 12)⟩,⟨(some 14),none,(.bin .gtr none 13<|vI 200000)⟩]<|.cond 14 (sQ [⟨(some 15),none,(.build Tu [])⟩,yN<|(.store 4 2 15),yN<|(.store 1 3<|vI 0),yN<|(.store 1 4<|vI 250)] .ret) .skip)
def war :ACode:=(sQ [⟨(some 17),none,(.move 0)⟩,⟨(some 18),none,(.build [(.str []),(.int .i64 0),.nilSl] [(0,1,17)])⟩,⟨(some 19),none,(.box 78 18)⟩,⟨(some 5),none,(.move 19)⟩]<|sQ [⟨(some 20),none,(.move 5)⟩,⟨(some 21),none,(kF 23 [20,(.val<|.str [84,66,76,49])])⟩]<|sQ [⟨(some 6),none,(.move<|.val<|.nilSl)⟩]<|.seq (sQ [⟨(some 22),none,(.move<|vI 0)⟩]<|.block 0<|.loop<|sQ [⟨(some 23),none,(.bin .lss none 22<|vI 5)⟩]<|.seq (.cond 23 .skip<|.exit 0)<|.seq (.block 1<|sQ [⟨(some 24),none,(.move 22)⟩,⟨(some 7),none,(.move 24)⟩]<|.ops [⟨(some 25),none,(.move 6)⟩,⟨(some 26),none,(.move 5)⟩,⟨(some 27),none,(.move 7)⟩,⟨(some 28),none,(.bin .add none 27<|vI 1)⟩,⟨(some 29),none,(kF 24 [26,28])⟩,⟨(some 30),none,(.bslice 9 1 1 [(.str [])] [(0,1,29)])⟩,⟨(some 31),none,(.append 9 1 16 25 30)⟩,⟨(some 6),none,(.move 31)⟩])<|.ops [⟨(some 32),none,(.bin .add none 22<|vI 1)⟩,⟨(some 22),none,(.move 32)⟩])<|.seq (sQ [⟨(some 33),none,(.move 5)⟩,⟨(some 34),none,(.nilCheck 33)⟩,⟨(some 35),none,(.fieldAddr 1 34)⟩,⟨(some 36),none,(.load 1 false 35)⟩,⟨(some 37),none,(.move 0)⟩,⟨(some 38),none,(.len true 37)⟩,⟨(some 39),none,(.bin .lss none 36 38)⟩]<|.cond 39 (.seq (.drawC [⟨(some 40),none,(.build Tu [])⟩,⟨(some 41),none,(.move 5)⟩,⟨(some 42),none,(.nilCheck 41)⟩,⟨(some 43),none,(.fieldAddr 1 42)⟩,⟨(some 44),none,(.load 1 false 43)⟩,yN<|(.store 4 2 40),yN<|(.store 1 3 44),yN<|(.store 1 4<|vI 250)] ⟨8,[0,0,1,1,1,2,2,2],[0,0,2,6,14,1,63,127],[0,32,96,224]⟩) .ret) .skip)<|sQ [⟨(some 46),none,(.move 6)⟩,⟨(some 47),none,(kF 25 [46])⟩,⟨(some 45),none,(.move 47)⟩,⟨(some 48),none,(.extract 45 0)⟩,⟨(some 49),none,(.extract 45 1)⟩,⟨(some 8),none,(.alloc 34 Tu)⟩,yN<|(.store 4 8 48),⟨(some 9),none,(.move 49)⟩]<|.seq (sQ [⟨(some 51),none,(.load 4 true 8)⟩,⟨(some 52),none,(kF 5 [51])⟩,⟨(some 50),none,(.move 52)⟩,⟨(some 53),none,(.extract 50 0)⟩,⟨(some 54),none,(.extract 50 1)⟩,⟨(some 10),none,(.move 53)⟩,⟨(some 11),none,(.move 54)⟩]<|sQ [⟨(some 55),none,(.move 9)⟩,⟨(some 56),none,(.un .not 55)⟩,⟨(some 57),none,(.move 56)⟩,⟨(some 58),(some (57,false)),(.move 11)⟩,⟨(some 59),(some (57,false)),(.bin .neq none 58<|vI 0)⟩,⟨(some 60),none,(.pick 57 (.val<|.bool true) 59)⟩,⟨(some 61),none,(.move 60)⟩,⟨(some 62),(some (61,false)),(.move 10)⟩,⟨(some 63),(some (61,false)),(.move 0)⟩,⟨(some 64),(some (61,false)),(.bin .neq none 62 63)⟩,⟨(some 65),none,(.pick 61 (.val<|.bool true) 64)⟩]<|.cond 65 (sQ [⟨(some 66),none,(.build Tu [])⟩,yN<|(.store 4 2 66),yN<|(.store 1 3<|vI 0),yN<|(.store 1 4<|vI 250)] .ret) .skip)<|sQ [⟨(some 67),none,(.load 4 true 8)⟩,yN<|(.store 4 2 67),yN<|(.store 1 3<|vI 0),yN<|(.store 1 4<|vI 0)] .ret)
theorem decX (hk:Kn W0)(hg:hGr W0 G):cP W0 9 [.str [84,66,76,88]] [] (.tup [bkZ,.int .i64 3,.int .i64 250]) []:=by refine A5.of_rec2 hg (v:=pv 3 250) (a0:=wa0) (a1:=wa1) (ar:=war) (ao:=⟨some 16,none,.mkfn 22 [] [.tmp 2,.tmp 3,.tmp 4]⟩) (t:=16) (g:=22) (n:=68) Tryz.func9 Z (by simp[Tryz.f9]) (Ez Am) Am Am Am Am Z Z Z ⟨_,Z,Z,Z⟩ Ax Z Z ?_;refine oM<|x3 Z Z Z ?_;refine⟨Z,?_⟩;refine sO<|m2 Z Z<|mBk hg gN (c:=false) Z Z Z<|mn<|cF Z<|kM ?_;refine⟨Z,?_⟩;refine⟨O,Z,⟨_,Z,?_⟩⟩;refine ExP.seqR ?_;refine oM<|x4 Z Z Z Z ?_;refine⟨Z,?_⟩;refine ExP.seqL ?_;refine ExP.ops hg ?_;refine Gi hg gN Z Z O<|Ym hg Z (p24 hk hg) ⟨_,Aai hg,_,Z,Z⟩
theorem wr_6 (hk:Kn W0):cP W0 23 [.ptr 3 0,.str [84,66,76,49]] ((hD [84,66,76,49,1] 0)) (.tup []) (hD [84,66,76,49,1] 4):=J5 hk Dj 60 _ _ _ _ _ (show Qu [] 60 23 [.ptr 3 0,.str [84,66,76,49]] ((hD [84,66,76,49,1] 0))=some (.tup [],hD [84,66,76,49,1] 4)by kernel_rfl)
theorem decY (hk:Kn W0)(hg:hGr W0 G):cP W0 9 [.str [84,66,76,49,1]] [] (.tup [bkZ,.int .i64 5,.int .i64 252]) []:=by refine A5.of_rec2 hg (v:=pv 5 252) (a0:=wa0) (a1:=wa1) (ar:=war) (ao:=⟨some 16,none,.mkfn 22 [] [.tmp 2,.tmp 3,.tmp 4]⟩) (t:=16) (g:=22) (n:=68) Tryz.func9 Z (by simp[Tryz.f9]) (Ez Am) Am Am Am Am Z Z Z ⟨_,Z,Z,Z⟩ Ax Z Z ?_;refine oM<|x3 Z Z Z ?_;refine⟨Z,?_⟩;refine sO<|m2 Z Z<|mBk hg gN (c:=false) Z Z Z<|mn<|cF Z<|kM ?_;refine⟨Z,?_⟩;refine⟨O,Z,⟨_,Z,?_⟩⟩;refine ExP.seqR ?_;refine oM<|x4 Z Z Z Z ?_;refine⟨Z,?_⟩;refine ExP.seqR ?_;refine oM<|mV Z<|mC Z (wr_6 hk)<|mn ?_;refine⟨Z,?_⟩;refine ExP.seqR ?_;refine oM<|x1 Z ?_;refine⟨Z,?_⟩;refine ExP.seqL ?_;refine ExP.seqR ?_;refine oM<|x1 Z ?_;refine⟨Z,?_⟩;refine ExP.block ?_;refine ExP.loop 1 ?_;refine .inl ?_;refine ExP.seqR ?_;refine oM<|mBk hg gN (c:=true) Z Z Z<|mn ?_;refine⟨Z,?_⟩;refine ExP.seqR ?_;refine cT Z<|kM ?_;refine⟨Z,?_⟩;refine ExP.seqL ?_;refine ExP.block ?_;refine ExP.seqR ?_;refine oM<|x2 Z Z ?_;refine⟨Z,?_⟩;refine ExP.ops hg ?_;refine Gi hg gN Z Z O<|Gi hg gN Z Z O<|Gi hg gN Z Z O<|Gi hg gN Z Z (by grind[Ag])<|Ym hg Z (p25 hk hg) ⟨_,Aai hg,_,Z,Z⟩
def ZF24 :ACode:=(sQ [yV 4<|.move<|.val<|.str []]<|sQ [yM 7 0,yM 8 1,yV 9<|.conv (.int .i32) 8,yV 10<|.conv .i2s 9,yV 11<|kF 23 [7,10]]<|sQ [yM 12 0,yM 13 0,yV 14<|kF 60 [13,(vI 4)],yV 15<|kF 59 [12,14],yM 5 15]<|sQ [yM 16 0,yV 17<|.nilCheck 16,yV 18<|.fieldAddr 1 17,yV 19<|.load 1 false 18,yM 6 19]<|.seq (sQ [yM 20 0,yV 21<|kF 60 [20,(vI 4)],yM 22 5,yV 23<|kF 11 [22],yV 24<|.bin .neq none 21 23]<|.cond 24 (.ops [yM 25 6,yV 26<|.build z5L [(0,1,25),(1,1,(vI 251))],yV 27<|.iface 74 26,yN<|.pan 27]) .skip)<|sQ [yM 28 5,yM 4 28] .ret)
theorem ZG24 :Gw Tryz.prog 24=some ⟨ZF24,[.tmp 4],29⟩:=Am
def Seg (s:Bz)(a:Nat)(q:Bz):Prop:=∃A R,s=A++(q++R)∧A.length=a
theorem Seg.len {s q:Bz}{a:Nat}(h:Seg s a q):a+q.length≤s.length:=by obtain⟨A,R,rfl,rfl⟩:=h;simp
theorem Seg.cut {s q:Bz}{a:Nat}(h:Seg s a q):(s.take<|a+q.length).drop a=q:=by obtain⟨A,R,rfl,rfl⟩:=h;grind
theorem Seg.l {s q r:Bz}{a:Nat}(h:Seg s a<|q++r):Seg s a q:=by obtain⟨A,R,rfl,rfl⟩:=h;exact⟨A,r++R,by grind,rfl⟩
theorem Seg.r {s q r:Bz}{a:Nat}(h:Seg s a<|q++r):Seg s (a+q.length) r:=by obtain⟨A,R,rfl,rfl⟩:=h;exact⟨A++q,R,by grind,by grind⟩
theorem Seg.one {s q:Bz}{a i:Nat}(h:Seg s a q)(hi:i<q.length):Seg s (a+i) [q.getD i 0]:=by rw[Vp hi]at h;have h1:=h.r;rw[List.length_take,Nat.min_eq_left Y]at h1;exact Seg.l (r:=q.drop<|i+1) h1
theorem A40 {H:Hz}{n:Nat}{k:IntKind}{x y:Int}(h:x=y):FzV H n (.int k x) (.int k y):=by subst h;exact fvI
theorem takeW (hg:hGr W0 G){s:Bz}{a k:Nat}(h:a+k≤s.length)(hl:s.length≤1000000):cP W0 59 [.ptr 3 0,.int .i64 ((k:Nat):Int)] (hD s a) (.str<|(s.take<|a+k).drop a) (hD s<|a+k):=by refine goW 59 47 4 ?_;refine Wm ?_;refine kD ?_;refine vQ Z<|vQ Z<|vQ Z<|vQ Z<|vQ Z<|vQ Z<|vQ Z<|vQ Z<|vQ Z<|vQ Z<|qKv (v:=.int .i64 ((s.length-a:Nat):Int)) Z Z O (Bj Y Y Y)<|qBk (c:=false) Z Z (dF Y)<|Dl ?_;refine Wm ?_;refine ExM.sub (s1:=⟨.al [(0,.ptr 3 0),(1,.int .i64 ((k:Nat):Int))],hD s<|a+k,47⟩) (An Z Z<|sbC Z<|sbC Z sbN) ?_;refine Wm ?_;refine kD ?_;refine vQ Z<|vQ Z<|vQ Z<|vQ Z<|vQ Z<|vQ Z<|vQ Z<|vQ Z<|vQ Z<|qKv (v:=.int .i64 ((a:Nat):Int)) Z Z O (Bj Y Y Y)<|vQ Z<|vQ Z<|vQ Z<|vQ Z<|Ak (v:=.str<|(s.take<|a+k).drop a) Z Z A8s<|vQ Z<|Dl ?_;refine Wm ?_;exact pS
theorem Aa7 (hg:hGr W0 G){s q:Bz}{a:Nat}(h:Seg s a q)(hl:s.length≤1000000):cP W0 59 [.ptr 3 0,.int .i64 ((q.length:Nat):Int)] (hD s a) (.str q) (hD s<|a+q.length):=by have h1:=takeW hg h.len hl;rw[h.cut]at h1;exact h1
theorem numS (hg:hGr W0 G){s l:Bz}{a:Nat}(h:Seg s a l)(hl:s.length≤1000000)(h4:l.length=4):cP W0 60 [.ptr 3 0,.int .i64 4] (hD s a) (.int .i64 ((Es l:Nat):Int)) (hD s<|a+4):=by
 have ht:=Aa7 hg h hl;rw[h4]at ht;have hbl:Ab 0 (u8c l)=true:=C4 l;refine goW 60 23 4 ?_;refine Wm ?_;refine mS (v:=.hsl 1 4 0 4 none) (by show some (ARes.val (.hsl 1 4 0 l.length none) _ _)=_;rw[h4]) ?_;refine Wm ?_;refine ExM.lpH (σ:=Nat) (τ:=Unit) (λi=>⟨.al [(4,.int .i64 ((Es (l.take i):Nat):Int)),(10,.hsl 1 4 0 4 none),(11,.int .i64 4),(12,.int .i64 ((i:Nat):Int))],hD s (a+4)++[.cells 5 (u8c l) false],23⟩) (λi=>i≤4) (λi=>4-i) 0 (λ_=>⟨.al [(4,.int .i64 ((Es l:Nat):Int))],hD s<|a+4,23⟩) (λ_=>True) (Bw 5 (frC (frS Z)<|frC (frS Z)<|frC (frS Z)<|frC (frS Z)<|frC (frS hbl) frN)<|fI<|fzC Z (E5 V)<|fI<|fI fzN) (Nat.zero_le _) ?_ ?_
 ·intro i hi;by_cases hlt:i<4
  ·have e8:=Yc (l:=l) (i:=i) Y;have hv:Es (l.take i)<1099511627776:=by grind[A0f,List.length_take]
   have hc:=A5v<|l.getD i 0;have hrd:Bt 1 false (u8c l) i=some (.int .u8 (((l.getD i 0).toNat:Nat):Int)):=by
    have hlt:i<(u8c l).length:=by rw[u8c,List.length_map];omega
    rw[Bt,List.drop_eq_getElem_cons hlt];simp only[u8c,List.getElem_map,List.getD_eq_getElem?_getD,gGe (show i<l.length by omega),Option.getD_some];rfl
   refine Wm ?_;refine mS (v:=.ptr 4 i) (A92 Z Z Z) ?_ (hs:=by simp only[Ag,and_true];omega);refine mV (v:=.int .u8 (((l.getD i 0).toNat:Nat):Int)) (Na Z Z hrd) ?_;refine Wm ?_;refine mI ((Es (l.take i)*256:Nat):Int) Z ?_ (h1:=by grind) (h2:=by show((Es (l.take i):Nat):Int)*256≤_;omega) (h3:=by show((Es (l.take i):Nat):Int)*256=_;omega);refine mV Z ?_;refine mI (((l.getD i 0).toNat:Nat):Int) Z ?_;refine mKs (v:=.int .i64 ((Es (l.take<|i+1):Nat):Int)) Z (congrArg (AVal.int .i64)<|(or_add hv hc).trans (by rw[e8])) ?_;refine Wm ?_;exact hoN (i+1) hlt Y<|Bw 5 (frC (frS Z)<|frC (frS Z)<|frC (frS Z)<|frC (frS Z)<|frC (frS hbl) frN)<|fI<|fzC Z (E5 V)<|fI<|fI fzN
  ·have he:i=4:=by omega
   subst he;refine Wm ?_;exact hoE () O<|Bw 4 (frC (frS Z)<|frC (frS Z)<|frC (frS Z)<|frC (frS Z) frN)<|fzC Z (A40 (by grind)) fzN
 intro _ _;refine Wm ?_;exact We
theorem needS (hg:hGr W0 G){s q:Bz}{a:Nat}(h:Seg s a q)(hl:s.length≤1000000)(hq:q.length≤1000):cP W0 23 [.ptr 3 0,.str q] (hD s a) (.tup []) (hD s<|a+q.length):=by
 refine goW 23 26 4 ?_;refine Wm ?_;refine ExM.lpA (σ:=Nat) (λi=>⟨.al [(0,.ptr 3 0),(1,.str q),(6,.int .i64 ((q.length:Nat):Int)),(7,.int .i64 ((i:Nat):Int))],hD s<|a+i,26⟩) (λi=>i≤q.length) (λi=>q.length-i) 0 (Bw 4 (frC (frS Z)<|frC (frS Z)<|frC (frS Z)<|frC (frS Z) frN)<|fzC Z (Ap V)<|fS<|fI<|fI fzN) (Nat.zero_le _) ?_;intro i hi;by_cases hlt:i<q.length
 ·have h1:=Aa7 hg (h.one hlt) hl;have hc:(q.take<|i+1).drop i=[q.getD i 0]:=by grind[List.take_succ_eq_append_getElem]
  refine Wm ?_;refine ExM.draw1 hg 1 Z ?_;refine Ip Z Z O<|Abu Z Z Z h1<|Ip Z Z O<|Ip Z Z O<|Ip Z Z O<|wKv (v:=.int .i64 ((i+1:Nat):Int)) Z Z O (Bj Y Y Y)<|wKv (v:=.str [q.getD i 0]) Z Z A8s (congrArg AVal.str hc)<|wBk (c:=false) Z Z Ax<|A9a ?_;refine Wm ?_;exact haN (i+1) Y Y<|Bw 4 (frC (frS Z)<|frC (frS Z)<|frC (frS Z)<|frC (frS Z) frN)<|fzC Z (Ap V)<|fS<|fI<|fI fzN
 ·have he:i=q.length:=by omega
  subst he;refine Wm ?_;refine haE<|kJ ?_;exact pS
section
variable {s b f : Bz} {a i : Nat}
structure A6s (W0:World)(s b f:Bz)(a i:Nat):Prop where
 i5:i<5
 nd:cP W0 23 [.ptr 3 0,.str<|Ae 1<|i+1] (hD s a) (.tup []) (hD s<|a+1)
 ln:cP W0 60 [.ptr 3 0,.int .i64 4] (hD s<|a+1) (.int .i64 ((b.length:Nat):Int)) (hD s<|a+5)
 tk:cP W0 59 [.ptr 3 0,.int .i64 ((b.length:Nat):Int)] (hD s<|a+5) (.str b) (hD s<|a+5+b.length)
 sm:cP W0 60 [.ptr 3 0,.int .i64 4] (hD s<|a+5+b.length) (.int .i64 ((Es f:Nat):Int)) (hD s<|a+9+b.length)
 su:cP W0 11 [.str b] [] (.int .i64 ((D1 b:Nat):Int)) []
theorem secAt (hg:hGr W0 G)(hi:i<5)(h:Seg s a<|Ae 1 (i+1)++(Ae 4 b.length++(b++f)))(hl:s.length≤1000000)(hf:f.length=4):A6s W0 s b f a i:=by
 have hb:b.length≤s.length:=by have:=h.len;grind
 have h0:=needS hg (q:=Ae 1<|i+1) h.l hl (by rw[Ao];decide);have h1:=numS hg h.r.l hl<|Ao _ _;have h2:=Aa7 hg h.r.r.l hl;have h3:=numS hg h.r.r.r hl hf;simp only[Ao]at h0 h1 h2 h3;rw[L6,Nat.mod_eq_of_lt Y]at h1;rw[show a+1+4=a+5 by omega]at h1 h2 h3;rw[show a+5+b.length+4=a+9+b.length by omega]at h3;exact⟨hi,h0,h1,h2,h3,A90 hg Y⟩
theorem encU (hi:i<5):(Utf8.encode<|IntKind.i32.wrap ((i+1:Nat):Int)).data.toList=Ae 1 (i+1):=by have:i=0∨i=1∨i=2∨i=3∨i=4:=Y;rcases this with rfl|rfl|rfl|rfl|rfl<;>(show _=_;kernel_rfl)
theorem secS (hg:hGr W0 G)(h:A6s W0 s b f a i)(he:Es f=D1 b):cP W0 24 [.ptr 3 0,.int .i64 ((i+1:Nat):Int)] (hD s a) (.str b) (hD s<|a+9+b.length):=by obtain⟨hi,h0,h1,h2,h3,h4⟩:=h;have h5:=λH=>A5.pure (W0:=W0) (P:=Tryz.prog) Z Z h4 H;have hu:=encU hi;refine A5.fnW 29 4 ZG24 ?_;unfold ZF24;refine Wm ?_;rw[hu];refine mC Z h0 ?_;refine Wm ?_;exact We
theorem secN (hg:hGr W0 G)(h:A6s W0 s b f a i)(he:Es f≠D1 b)(X:Hz):Og Tryz.prog W0 24 [.ptr 3 0,.int .i64 ((i+1:Nat):Int)] (hD s a++X) (pv (a+5+b.length) 251) (hD s (a+9+b.length)++X):=by obtain⟨hi,h0,h1,h2,h3,h4⟩:=h;have h5:=λH=>A5.pure (W0:=W0) (P:=Tryz.prog) Z Z h4 H;have f0:=A5.frame F6 F6 F6 h0 X;have f1:=A5.frame F6 F6 F6 h1 X;have f2:=A5.frame F6 F6 F6 h2 X;have f3:=A5.frame F6 F6 F6 h3 X;have hu:=encU hi;refine Og.of_fn (n:=29) ZG24 Ax Z ?_;show ExP _ _ _ ZF24 _ _ _;unfold ZF24;refine ExP.seqR ?_;refine Wm ?_;refine⟨Z,?_⟩;refine ExP.seqR ?_;refine Wm ?_;rw[hu];refine mC Z f0 ?_;refine Wm ?_;refine⟨Z,?_⟩;refine ExP.seqR ?_;refine Wm ?_;refine⟨Z,?_⟩;refine ExP.seqR ?_;refine Wm ?_;refine⟨Z,?_⟩;refine ExP.seqL ?_;refine ExP.seqR ?_;refine Wm ?_;refine⟨Z,?_⟩;refine ExP.condT hg Z ?_;refine ExP.ops hg ?_;refine Gi hg gN Z Z O<|Gi hg gN Z Z O<|Gi hg gN Z Z O<|pPan hg Z Z
end
theorem Seg.get {s q:Bz}{a i:Nat}(h:Seg s a q)(hi:i<q.length):s.getD (a+i) 0=q.getD i 0:=by obtain⟨A,R,rfl,rfl⟩:=h;grind
theorem Ada {l:Bz}(h:l.length≤4):Es l<4294967296:=by have h1:=A0f l;have h3:256^l.length≤256^4:=Nat.pow_le_pow_right V h;omega
theorem readS (hg:hGr W0 G){s l:Bz}{a:Nat}(h:Seg s a l)(hl:s.length≤1000000)(h4:l.length=4):cP W0 20 [.str s,.int .i64 ((a:Nat):Int),.int .i64 4] [] (.int .i64 ((Es l:Nat):Int)) []:=by
 have ha:=h.len;refine goW 20 25 0 ?_;refine Wm ?_;refine ExM.lpH (σ:=Nat) (τ:=Unit) (λi=>⟨.al [(0,.str s),(1,.int .i64 ((a:Nat):Int)),(2,.int .i64 4),(7,.int .i64 ((Es (l.take i):Nat):Int)),(8,.int .i64 ((a+i:Nat):Int))],[],25⟩) (λi=>i≤4) (λi=>4-i) 0 (λ_=>⟨.al [(7,.int .i64 ((Es l:Nat):Int))],[],25⟩) (λ_=>True) (Bw 0 frN<|fS<|fI<|fI<|fI<|fI fzN) (Nat.zero_le _) ?_ ?_
 ·intro i hi;have hi:i≤4:=hi;by_cases hlt:i<4;·have hv:=Ada (l:=l.take i) (by grind);have hc:=A5v<|l.getD i 0;have e8:=Yc (l:=l) (i:=i) Y;have hgd:=h.get (i:=i) Y;refine Wm ?_;refine mI ((256*Es (l.take i):Nat):Int) Z ?_ (h1:=by omega) (h2:=by omega);refine Wm ?_;refine mS (v:=.int .u8 (((l.getD i 0).toNat:Nat):Int)) (by show some (ARes.val (.int .u8 (((s.getD (a+i) 0).toNat:Nat):Int)) _ _)=_;rw[hgd]) ?_ (hs:=by simp only[Ag,and_true];omega);refine mI (((l.getD i 0).toNat:Nat):Int) Z ?_;refine mI ((Es (l.take<|i+1):Nat):Int) Z ?_;refine Wm ?_;exact hoN (i+1) hlt Y (Bw 0 frN<|fS<|fI<|fI<|fI<|fI fzN)
  ·have he:i=4:=by omega
   subst he;refine Wm ?_;exact hoE () O<|Bw 0 frN<|fzC Z (A40 (by grind)) fzN
 intro _ _;refine Wm ?_;exact We
theorem Abt {l:Bz}{i:Nat}(h:i<l.length):D1 (l.take<|i+1)=(257*D1 (l.take i)+(l.getD i 0).toNat+1)%4294967291:=by grind[A2w,D1]
theorem sumR (hg:hGr W0 G){s:Bz}(hl:s.length≤1000000):cP W0 21 [.str s] [] (.int .i64 ((D1 s:Nat):Int)) []:=by
 refine goW 21 21 0 ?_;refine Wm ?_;refine ExM.lpH (σ:=Nat) (τ:=Unit) (λi=>⟨.al [(0,.str s),(3,.int .i64 ((D1 (s.take i):Nat):Int)),(4,.int .i64 ((i:Nat):Int))],[],21⟩) (λi=>i≤s.length) (λi=>s.length-i) 0 (λ_=>⟨.al [(3,.int .i64 ((D1 s:Nat):Int))],[],21⟩) (λ_=>True) (Bw 0 frN<|fS<|fI<|fI fzN) (Nat.zero_le _) ?_ ?_
 ·intro i hi;have hi:i≤s.length:=hi;by_cases hlt:i<s.length;·have hv:=Pe<|s.take i;have hc:=A5v<|s.getD i 0;have e8:=Abt hlt;refine Wm ?_;refine mI ((257*D1 (s.take i):Nat):Int) Z ?_;refine Wm ?_;refine mS (v:=.int .u8 (((s.getD i 0).toNat:Nat):Int)) Z ?_ (hs:=by simp only[Ag,and_true];omega);refine mI (((s.getD i 0).toNat:Nat):Int) Z ?_;refine mI ((257*D1 (s.take i)+(s.getD i 0).toNat:Nat):Int) Z ?_;refine mI ((257*D1 (s.take i)+(s.getD i 0).toNat+1:Nat):Int) Z ?_;refine mKs (v:=.int .i64 ((D1 (s.take<|i+1):Nat):Int)) Z (by rw[e8];grind) ?_;refine Wm ?_;exact hoN (i+1) hlt Y (Bw 0 frN<|fS<|fI<|fI fzN)
  ·have he:i=s.length:=by omega
   subst he;refine Wm ?_;exact hoE () O<|Bw 0 frN<|fzC Z (A40 (by grind)) fzN
 intro _ _;refine Wm ?_;exact We
def bL (bd:Nat→Bz)(k:Nat):List Bz:=(List.range k).map bd
theorem Vk (bd:Nat→Bz)(k:Nat):bL bd (k+1)=bL bd k++[bd k]:=by simp[bL,List.range_succ]
theorem A0p (bd:Nat→Bz)(k:Nat):(bL bd k).length=k:=by simp[bL]
theorem Vn (bd:Nat→Bz){n:Nat}:∀{m:Nat},n≤m→(Az bd n).length≤(Az bd m).length
 |0,h=>by grind
 |m+1,h=>by
  by_cases e:n=m+1;·grind
  ·have:=Vn bd (n:=n) (m:=m) Y;rw[Az,lAp];omega
theorem segF {bd:Nat→Bz}{s:Bz}(hS:s=D3++Az bd 5){i:Nat}(h:i<5):Seg s (4+(Az bd i).length) (Ae 1 (i+1)++(Ae 4 (bd i).length++(bd i++Ae 4 (D1<|bd i)))):=by obtain⟨r,hr⟩:=Vo bd h;exact⟨D3++Az bd i,r,by grind,Abl⟩
theorem frz_t {H:Hz}{n m:Nat}{l l':List AVal}(h:Gv H n m l=some l'):frz H n (m+1) (.tup l)=some (.tup l'):=by simp only[frz,h]
def bdS (s:Bz)(bd:Nat→Bz):Nat→St
 |0=>⟨.al [(0,.str s),(5,.int .i64 ((4:Nat):Int)),(6,.nilSl),(7,.int .i64 ((1:Nat):Int))],[],94⟩|i+1=>⟨.al [(0,.str s),(5,.int .i64 ((4+(Az bd<|i+1).length:Nat):Int)),(6,.hsl 1 1 0 (bL bd<|i+1).length none),(7,.int .i64 ((i+1+1:Nat):Int))],[.cells 9 [.str<|bd 0] false,.cells 9 (C5<|bL bd<|i+1) true],94⟩
theorem bodiesW (hg:hGr W0 G){bd:Nat→Bz}{s:Bz}(hS:s=D3++Az bd 5)(hl:s.length≤1000000):cP W0 7 [.str s] [] (.tup [.row 1<|(bL bd 5).map AVal.str,.int .i64 0,.int .i64 0]) []:=by
 have hq:s.length=4+(Az bd 5).length:=by rw[hS,lAp];rfl
 have g0:s.getD 0 0=84:=by rw[hS];rfl
 have g1:s.getD 1 0=66:=by rw[hS];rfl
 have g2:s.getD 2 0=76:=by rw[hS];rfl
 have g3:s.getD 3 0=49:=by rw[hS];rfl
 refine goW 7 94 0 ?_;refine Wm ?_;refine ExM.un 4 ?_;refine Wm ?_;refine kD ?_;refine vQ Z<|vQ Z<|Ak (v:=.int .u8 84) (by show some (ARes.val (.int .u8 (((s.getD 0 0).toNat:Nat):Int)) _ _)=_;rw[g0];rfl) Z Ld<|vQ Z<|Ak (v:=.int .u8 84) Z Z (by simp_all[Ag])<|qBk (c:=false) Z Z Z<|Dl ?_;refine Wm ?_;refine uN ?_;refine Wm ?_;refine kD ?_;refine vQ Z<|vQ Z<|Ak (v:=.int .u8 66) (by show some (ARes.val (.int .u8 (((s.getD 1 0).toNat:Nat):Int)) _ _)=_;rw[g1];rfl) Z Ld<|vQ Z<|Ak (v:=.int .u8 66) Z Z (by simp_all[Ag])<|qBk (c:=false) Z Z Z<|Dl ?_;refine Wm ?_;refine uN ?_;refine Wm ?_;refine kD ?_;refine vQ Z<|vQ Z<|Ak (v:=.int .u8 76) (by show some (ARes.val (.int .u8 (((s.getD 2 0).toNat:Nat):Int)) _ _)=_;rw[g2];rfl) Z Ld<|vQ Z<|Ak (v:=.int .u8 76) Z Z (by simp_all[Ag])<|qBk (c:=false) Z Z Z<|Dl ?_;refine Wm ?_;refine uN ?_;refine Wm ?_;refine kD ?_;refine vQ Z<|vQ Z<|Ak (v:=.int .u8 49) (by show some (ARes.val (.int .u8 (((s.getD 3 0).toNat:Nat):Int)) _ _)=_;rw[g3];rfl) Z Ld<|vQ Z<|Ak (v:=.int .u8 49) Z Z (by simp_all[Ag])<|qBk (c:=false) Z Z Z<|Dl ?_;refine Wm ?_;refine uN ?_;refine Wm ?_;refine uE ?_;refine kJ ?_ (hj:=by simp_all);refine Wm ?_;refine ExM.lpH (σ:=Nat) (τ:=Unit) (bdS s bd) (λi=>i≤5) (λi=>5-i) 0 (λ_=>⟨.al [(0,.str s),(5,.int .i64 ((4+(Az bd 5).length:Nat):Int)),(6,.hsl 1 1 0 (bL bd 5).length none)],[.cells 9 [.str<|bd 0] false,.cells 9 (C5<|bL bd 5) true],94⟩) (λ_=>True) (Bw 0 frN<|fS<|fI<|fzC Z Bi<|fI fzN) (Nat.zero_le _) ?_ ?_
 ·intro i hi;have hi:i≤5:=hi;by_cases hlt:i<5
  ·have h0:=segF hS hlt;have hln:=h0.len;simp only[lAp,Ao]at hln;have c0:=h0.l.get (i:=0) (by rw[Ao];decide);have hb0:(s.getD (4+(Az bd i).length) 0).toNat=i+1:=by rw[Nat.add_zero]at c0;rw[c0];show(UInt8.ofNat<|(i+1)/256^0).toNat=i+1;rw[UInt8.toNat_ofNat'];omega
   have r1:=readS hg h0.r.l hl<|Ao _ _;have sg:=h0.r.r.l;have r2:=readS hg h0.r.r.r hl<|Ao _ _;have r3:=λH=>A5.pure (W0:=W0) (P:=Tryz.prog) Z Z (sumR hg (s:=bd i) Y) H;have hsm:=Pe<|bd i;simp only[Ao]at r1 sg r2;rw[L6,Nat.mod_eq_of_lt Y]at r1 r2;have hsl:=Hu (bd:=bd) i;have z0:(Az bd 0).length=0:=rfl;have hcut:=sg.cut
   replace r1:=λH=>A5.pure (W0:=W0) (P:=Tryz.prog) rfl rfl r1 H
   replace r2:=λH=>A5.pure (W0:=W0) (P:=Tryz.prog) rfl rfl r2 H
   cases i with|zero=>unfold bdS;refine Wm ?_;refine mS (v:=.int .u8 (((s.getD (4+(Az bd 0).length) 0).toNat:Nat):Int)) Z ?_ (hs:=by simp only[Ag,and_true];omega);refine mI ((0+1:Nat):Int) Z ?_;refine Wm ?_;rw[show List.drop ((((4:Nat):Int)+5).toNat) (List.take ((((4:Nat):Int)+5+(((bd 0).length:Nat):Int)).toNat) s)=bd 0 from hcut];refine Wm ?_;refine mF Z ?_ (hb:=by simp);refine Wm ?_;refine mS (v:=.hsl 1 0 0 1<|some 1) Z ?_;refine mS (v:=.hsl 1 1 0 1 none) Z ?_ (hs:=by simp_all[Ag,C6]);refine Wm ?_;exact hoN 1 hlt Y (Bw 2 (frC (frS Z)<|frC (frS Z) frN)<|fS<|fzC Z (A40 (by grind))<|fzC Z (E5 V)<|fI fzN)|succ i=>unfold bdS;refine Wm ?_;refine mS (v:=.int .u8 (((s.getD (4+(Az bd<|i+1).length) 0).toNat:Nat):Int)) Z ?_ (hs:=by simp only[Ag,and_true];omega);refine mI (((i+1)+1:Nat):Int) Z ?_;refine Wm ?_;refine mF Z ?_ (hb:=by simp);refine Wm ?_;rw[show List.drop ((((4+(Az bd<|i+1).length:Nat):Int)+5).toNat) (List.take ((((4+(Az bd<|i+1).length:Nat):Int)+5+(((bd<|i+1).length:Nat):Int)).toNat) s)=bd (i+1)from hcut];refine Wm ?_;refine mF Z ?_ (hb:=by simp);refine Wm ?_;refine mS (v:=.hsl 1 2 0 1<|some 1) Z ?_;refine mS (Ut (p:=[bd<|i+1]) Z Z Z Z Z Z) ?_ (hs:=by simp only[Ag,and_true,C6,lCo,lNi,A0p];omega);refine Wm ?_;exact hoN (i+2) hlt Y<|Bw 2 (frC (frS Z)<|frC (by grind[Vk,frS,Cb]) frN)<|fS<|fzC Z (A40 Y)<|fzC Z (by grind[Vk,E5])<|fI fzN
  ·have he:i=5:=by omega
   subst he;unfold bdS;refine Wm ?_;exact hoE () O<|Bw 2 (frC (frS Z)<|frC (frS<|Cb _) frN)<|fS<|fI<|fzC Z (E5 V) fzN
 intro _ _;refine Wm ?_;obtain⟨k,hk⟩:=fzaO (H:=[.cells 9 [.str<|bd 0] false,.cells 9 (C5<|bL bd 5) true]) (k:=1) (id:=1) (len:=(bL bd 5).length) (cp:=none) (es:=C5<|bL bd 5) (Nat.le_refl _) rfl Ac8 (by have:=Or (bL bd 5) [];grind)<|Cb _;exact A4 O Z Z (k+6) (frz_t (m:=k+5)<|Qc (m:=k+4) (hk (k+4) Y)<|Qc (m:=k+3) Z<|Qc (m:=k+2) Z Z) Z
theorem rec2x (hg:hGr W0 G){s:Bz}{n a e:Nat}{o1 o2:HObj}:Xy Tryz.prog W0 22 [.ptr 0 0,.ptr 1 0,.ptr 2 0] (pv a e) (hD s n++[o1,o2]) [.cells 34 Tu false,.cells 3 [.int .i64 ((a:Nat):Int)] false,.cells 26 [.int .i64 ((e:Nat):Int)] false,.cells 78 [.str s,.int .i64 ((n:Nat):Int),.nilSl] false,o1,o2,.cells 74 [.int .i64 ((a:Nat):Int),.int .i64 ((e:Nat):Int)] false]:=by refine Xy.of2 (ar:=wr23) (t:=6) (t2:=3) (n:=22) Tryz.func22 Z Z Z Z Z (λ_ _=>Z) (λ_ _=>Z) Am Z Ax Z Z Z ?_;refine sO<|mV Z<|mBk hg gN (c:=true) Z Z Z<|mn<|cT Z<|sO<|m2 Z Z<|m4 Z Z Z Z<|Ah hg gN Z<|x1 Z<|sq<|sO<|mV Z<|mBk hg gN (c:=false) Z Z Z<|mn<|cF Z<|kM ?_;refine ExM.drawC hg ?_;refine Dm Z Z O Am<|Dm Z Z O Am<|Dm Z Z O Am<|Dm Z Z O Am<|Dm Z Z O Am<|R5 Z Z (pdC (cY (by show SP.mayB _ 32 4=true;rfl)<|evY Z O)<|pdC (cY (by show SP.mayB _ 32 3=true;rfl)<|evY Z O)<|pdC (cY (by show SP.mayB _ 32 2=true;rfl)<|evY Z O)<|pdC (cY Abd<|evY Z O) pdN)<|?_;refine R5 Z Z (pdC (cY (by show SP.mayB _ 96 4=true;rfl)<|evY Z O)<|pdC (cY (by show SP.mayB _ 96 3=true;rfl)<|evY Z O)<|pdC (cN (by show SP.mayB _ 96 2=false;rfl))<|pdC (cN (by show SP.mayB _ 96 1=false;rfl)) pdN)<|R5 Z Z (pdC (cN (by show SP.mayB _ 224 4=false;rfl))<|pdC (cN (by show SP.mayB _ 224 3=false;rfl))<|pdC (cN (by show SP.mayB _ 224 2=false;rfl))<|pdC (cN (by show SP.mayB _ 224 1=false;rfl)) pdN)<|A23 Z<|?_;exact⟨O,Z⟩
def dcS (s:Bz)(bd:Nat→Bz):Nat→St
 |0=>⟨.al [(2,.ptr 0 0),(3,.ptr 1 0),(4,.ptr 2 0),(5,.ptr 3 0),(6,.nilSl),(22,.int .i64 ((0:Nat):Int))],hD s 4,68⟩|i+1=>⟨.al [(2,.ptr 0 0),(3,.ptr 1 0),(4,.ptr 2 0),(5,.ptr 3 0),(6,.hsl 1 5 0 (bL bd<|i+1).length none),(22,.int .i64 ((i+1:Nat):Int))],(hD s (4+(Az bd<|i+1).length)++[.cells 9 [.str<|bd 0] false,.cells 9 (C5<|bL bd<|i+1) true]),68⟩
theorem decG (hg:hGr W0 G){bd:Nat→Bz}{n:Nat}{s b f R:Bz}(hn:n<5)(hs:s=D3++(Az bd n++(Ae 1 (n+1)++(Ae 4 b.length++(b++f))++R)))(hl:s.length≤200000)(hf:f.length=4)(hne:Es f≠D1 b):cP W0 9 [.str s] [] (.tup [bkZ,.int .i64 ((4+(Az bd n).length+5+b.length:Nat):Int),.int .i64 251]) []:=by
 have hl6:s.length≤1000000:=Y;have hm:=needS hg (s:=s) (q:=[84,66,76,49]) (a:=0) ⟨[],_,hs,Z⟩ hl6 V;have hsn:A6s W0 s b f (4+(Az bd n).length) n:=secAt hg hn ⟨D3++Az bd n,R,by grind,Abl⟩ hl6 hf;have hsi:∀i,i<n→cP W0 24 [.ptr 3 0,.int .i64 ((i+1:Nat):Int)] (hD s<|4+(Az bd i).length) (.str<|bd i) (hD s<|4+(Az bd<|i+1).length):=λi hi=>by
  obtain⟨r,hr⟩:=Vo bd hi;have hb:(bd i).length<4294967296:=by grind
  have h:=secS hg (secAt (W0:=W0) (i:=i) (s:=s) (b:=bd i) (f:=Ae 4<|D1<|bd i) (a:=4+(Az bd i).length) hg Y ⟨D3++Az bd i,r++_,by rw[hs,hr];simp only[List.append_assoc];rfl,Abl⟩ hl6<|Ao _ _) (by grind[L6,Pe]);grind[Hu]
 generalize hD0:4+(Az bd n).length=a at hsn;have hpn:=λX=>secN hg hsn hne X;refine A5.of_rec2 hg (v:=pv (a+5+b.length) 251) (a0:=wa0) (a1:=wa1) (ar:=war) (ao:=⟨some 16,none,.mkfn 22 [] [.tmp 2,.tmp 3,.tmp 4]⟩) (t:=16) (g:=22) (n:=68) Tryz.func9 Z (by simp[Tryz.f9]) (Ez Am) Am Am Am Am Z Z Z ⟨_,Z,Z,Z⟩ Ax Z Z ?_;unfold wa0;refine Wm ?_;refine⟨Z,?_⟩;unfold wa1;refine Wm ?_;refine⟨Z,?_⟩;refine⟨O,Z,⟨_,Z,?_⟩⟩;unfold war;refine ExP.seqR ?_;refine Wm ?_;refine⟨Z,?_⟩;refine ExP.seqR ?_;refine Wm ?_;refine⟨Z,?_⟩;refine ExP.seqR ?_;refine Wm ?_;refine⟨Z,?_⟩;refine ExP.seqL ?_;refine ExP.seqR ?_;refine Wm ?_;refine⟨Z,?_⟩;refine ExP.block ?_;refine ExP.lpN (dcS s bd) n (Bw 4 (frC (frS Z)<|frC (frS Z)<|frC (frS Z)<|frC (frS Z) frN) (fzC Z (Ap (id:=0) (off:=0) V)<|fzC Z (Ap (id:=1) (off:=0) V)<|fzC Z (Ap (id:=2) (off:=0) V)<|fzC Z (Ap (id:=3) (off:=0) V)<|fzC Z Bi<|fI fzN) (hm:=by grind)) (λi hi=>?_) ?_;·have h0:=hsi i hi;clear hsi hpn;cases i with|zero=>unfold dcS;refine Wm ?_;refine mS (v:=.hsl 1 4 0 1<|some 1) Z ?_;refine mS (v:=.hsl 1 5 0 1 none) Z ?_ (hs:=by simp_all[Ag,C6]);refine Wm ?_;exact⟨Z,Bw 6 (frC (frS Z)<|frC (frS Z)<|frC (frS Z)<|frC (frS Z)<|frC (frS Z)<|frC (frS Z) frN) (fzC Z (Ap (id:=0) (off:=0) V)<|fzC Z (Ap (id:=1) (off:=0) V)<|fzC Z (Ap (id:=2) (off:=0) V)<|fzC Z (Ap (id:=3) (off:=0) V)<|fzC Z (E5 V)<|fI fzN) (hm:=by grind)⟩|succ i=>unfold dcS;refine Wm ?_;refine mC Z (A5.frame F6 F6 F6 h0 _) ?_;refine Wm ?_;refine mS (v:=.hsl 1 6 0 1<|some 1) Z ?_;refine mS (Ut (p:=[bd<|i+1]) Z Z Z Z Z Z) ?_ (hs:=by simp only[Ag,and_true,C6,lCo,lNi,A0p];omega);refine Wm ?_;exact⟨Z,Bw 6 (frC (frS Z)<|frC (frS Z)<|frC (frS Z)<|frC (frS Z)<|frC (frS Z)<|frC (by grind[Vk,frS,Cb]) frN) (fzC Z (Ap (id:=0) (off:=0) V)<|fzC Z (Ap (id:=1) (off:=0) V)<|fzC Z (Ap (id:=2) (off:=0) V)<|fzC Z (Ap (id:=3) (off:=0) V)<|fzC Z (by grind[Vk,E5])<|fI fzN) (hm:=by grind)⟩
 ·cases n with|zero=>have ha:a=4:=hD0.symm;subst ha;unfold dcS;refine ExP.seqR ?_;refine Wm ?_;refine⟨Z,?_⟩;refine ExP.seqR ?_;refine Wm ?_;refine⟨Z,?_⟩;refine ExP.seqL ?_;refine ExP.block ?_;refine ExP.seqR ?_;refine Wm ?_;refine⟨Z,?_⟩;refine ExP.ops hg ?_;refine Gi hg gN Z Z O<|Gi hg gN Z Z O<|Gi hg gN Z Z O<|Gi hg gN (u:=.int .i64 ((0+1:Nat):Int)) (by show some (ARes.val (.int .i64<|IntKind.i64.wrap<|((0:Nat):Int)+1) _ _)=_;rw[w64 Y Y];rfl) Z A33<|Ym hg Z (by have:=hpn [];rw[List.append_nil,List.append_nil]at this;exact this) ⟨_,Aai hg,_,Z,?_⟩;rfl|succ i=>subst hD0;unfold dcS;refine ExP.seqR ?_;refine Wm ?_;refine⟨Z,?_⟩;refine ExP.seqR ?_;refine Wm ?_;refine⟨Z,?_⟩;refine ExP.seqL ?_;refine ExP.block ?_;refine ExP.seqR ?_;refine Wm ?_;refine⟨Z,?_⟩;refine ExP.ops hg ?_;refine Gi hg gN Z Z O<|Gi hg gN Z Z O<|Gi hg gN Z Z O<|Gi hg gN (u:=.int .i64 (((i+1)+1:Nat):Int)) (by show some (ARes.val (.int .i64<|IntKind.i64.wrap<|(((i+1):Nat):Int)+1) _ _)=_;rw[w64 Y Y];rfl) Z A33<|Ym hg Z (hpn _) ⟨_,rec2x hg,_,Z,?_⟩;rfl
theorem entP {e:Ent}(h:D2 Tryz.prog W0 e)(H:Hz):cP W0 e.f e.args H e.v H:=A5.pure h.1 h.2.1 h.2.2 H
theorem sumA0 (hk:Kn W0)(H:Hz):cP W0 11 [.str []] H (.int .i64 1) H:=A5.pure Z Z (J5 hk Dj 60 _ _ _ _ _ (show Qu [] 60 11 [.str []] []=some (.int .i64 1,[])by kernel_rfl)) H
theorem sumB0 (hk:Kn W0)(H:Hz):cP W0 11 [.str [65]] H (.int .i64 323) H:=A5.pure Z Z (J5 hk Dj 60 _ _ _ _ _ (show Qu [] 60 11 [.str [65]] []=some (.int .i64 323,[])by kernel_rfl)) H
theorem awakeP (hk:Kn W0)(hg:hGr W0 G):cP W0 4 [] [] (.bool true) []:=by refine goM 4 97 ?_;refine sO<|x1 Z<|sO<|mV Z<|mV (v:=.hsl 2 0 0 1<|some 1) Z<|mV Z ?_;refine mFz (s1:=⟨.al [(17,bkA)],[],97⟩) (Aq 0 Z (Nat.zero_le _) Z Z<|fzC Z (.inl ⟨20,Z⟩) fzN) ?_;refine mV (v:=.ptr 0 0) Z<|Ah hg gN Z<|mn<|sO<|mV (v:=bkA) Z<|mC Z (entP (awk0 hk) _)<|mV Z<|x4 Z Z Z Z<|sO<|mV Z<|mC Z (entP (awk2 hk) _)<|m4 Z Z Z Z<|mV (v:=.ptr 1 0) Z<|Ah hg gN Z<|x2 Z Z<|sO<|mV (v:=bkZ) Z<|mC Z (entP (awk3 hk) _)<|mV Z<|x4 Z Z Z Z<|sO<|mC Z (A5.pure Z Z (decX hk hg) _)<|m4 Z Z Z Z<|mV (v:=.ptr 2 0) Z<|Ah hg gN Z<|x2 Z Z<|sO<|mC Z (A5.pure Z Z (decY hk hg) _)<|m4 Z Z Z Z<|mV (v:=.ptr 3 0) Z<|Ah hg gN Z<|x2 Z Z<|sO<|mV Z<|mBk hg gN (c:=true) Z Z Z<|mBk hg gN (c:=true) Z Z Z<|mV Z<|mV (v:=.int .i64 62) Z<|mBk hg (gS Z) (c:=true) Z Z Z<|mBk hg gN (c:=true) Z Z Z<|mBk hg gN (c:=true) Z Z Z<|mV Z<|Ac hg (gS Z) (v:=.str [84,66,76,49]) Z Z (by simp[B3,Ag,Q5])<|mBk hg (gS Z) (c:=true) Z Z Z<|mBk hg gN (c:=true) Z Z Z<|mBk hg gN (c:=true) Z Z Z<|mV Z<|mBk hg (gS Z) (c:=true) Z Z Z<|mBk hg gN (c:=true) Z Z Z<|mBk hg gN (c:=true) Z Z Z<|mV Z<|mBk hg (gS Z) (c:=true) Z Z Z<|mBk hg gN (c:=true) Z Z Z<|mBk hg gN (c:=true) Z Z Z<|mV (v:=bkA) Z<|mV (v:=bkB) Z<|I1 hg (gS Z) (c:=true) Z Z (entP (awk4 hk) _) Z<|mBk hg gN (c:=true) Z Z Z<|mBk hg gN (c:=true) Z Z Z<|mV Z<|mBk hg (gS Z) (c:=true) Z Z Z<|mBk hg gN (c:=true) Z Z Z<|mBk hg gN (c:=true) Z Z Z<|mV Z<|mBk hg (gS Z) (c:=true) Z Z Z<|mBk hg gN (c:=true) Z Z Z<|mBk hg gN (c:=true) Z Z Z<|mV Z<|mBk hg (gS Z) (c:=true) Z Z Z<|mBk hg gN (c:=true) Z Z Z<|mBk hg gN (c:=true) Z Z Z<|mV Z<|mBk hg (gS Z) (c:=true) Z Z Z<|mBk hg gN (c:=true) Z Z Z<|mBk hg gN (c:=true) Z Z Z<|mV Z<|mBk hg (gS Z) (c:=true) Z Z Z<|mBk hg gN (c:=true) Z Z Z<|mBk hg gN (c:=true) Z Z Z<|mC Z (sumA0 hk _)<|mBk hg (gS Z) (c:=true) Z Z Z<|mBk hg gN (c:=true) Z Z Z<|mBk hg gN (c:=true) Z Z Z<|mC Z (sumB0 hk _)<|mBk hg (gS Z) (c:=true) Z Z Z<|mBk hg gN (c:=true) Z Z Z<|x1 Z ?_;exact ExM.ret<|pL
theorem A3o {b:RB}{v:AVal}(h:A73 W0 b v):blw 0 v=true:=by
 obtain⟨n,shs,rs,_,rfl,_⟩:=h;have h1:Ab 0 (nlN b.nm)=true:=by cases b.nm<;>rfl
 have h2:Ab 0 (tlT b.tb)=true:=by cases b.tb<;>rfl
 simp_all[wbV,blw,Ab,Br,En]
theorem sameZ (hk:Kn W0):cP W0 10 [bkZ,bkZ] [] (.bool true) []:=cK hk
theorem bytes1 (x:UInt8):A8n [.cells 5 [.int .u8 ((x.toNat:Nat):Int)] false] (.hsl 1 0 0 1<|some 1)=some (.str [x]):=by have:UInt8.ofNat x.toNat=x:=UInt8.ofNat_toNat;show some (AVal.str [UInt8.ofNat x.toNat])=_;rw[this]
theorem packSums (hk:Kn W0){b:RB}(hb:RBok b){at_:Int}(hat:i64 at_){c:Nat}(hc:c<256):cP W0 3 [.agg<|rbL b,.int .i64 at_,.int .u8 ((c:Nat):Int)] [] (.bool true) []:=by
 have hg:=grK hk;obtain⟨ha1,ha2⟩:=hat;have haw:=λH=>A5.pure (W0:=W0) (P:=Tryz.prog) Z Z (awakeP hk hg) H;refine goW 3 139 0 ?_;refine Wm ?_;refine C0 hg gN Z Z (by show cond (Ab 0<|rbL b) true false=true;rw[Bn];rfl) (bookE hk hb) (λv hv=>A3o hv)<|λv hv=>?_;obtain⟨bd,hbd,hlen,henc⟩:=encG hk hv;have hcl:=A3o hv;have hE:=λH=>A5.pure (W0:=W0) (P:=Tryz.prog) (by show cond (blw 0 v) true false=true;grind) Z henc H;have ht:Wb bd=D3++Az bd 5:=rfl;generalize Wb bd=t at hE ht hlen;have hB:=λH=>A5.pure (W0:=W0) (P:=Tryz.prog) Z (by show cond (Ab 0<|C5<|bL bd 5) true false=true;rw[Cb];rfl) (bodiesW hg ht Y) H;have hp5:=Ac6 hg (c:=at_) (n:=5) ha1 ha2 V;have hn:=Bm (c:=at_) (n:=5) V;generalize B8 at_ 5=n at hp5 hn;refine Wm ?_;refine ExM.lpH (σ:=Nat) (τ:=Unit) (λi=>⟨.al [(1,.int .i64 at_),(2,.int .u8 ((c:Nat):Int)),(7,.bool true),(8,.str t),(10,.row 1<|(bL bd 5).map AVal.str),(13,.int .i64 ((n:Nat):Int)),(14,.int .i64 ((4+(Az bd i).length:Nat):Int)),(15,.int .i64 ((i:Nat):Int))],[],139⟩) (λi=>i≤n) (λi=>n-i) 0 (λ_=>⟨.al [(1,.int .i64 at_),(2,.int .u8 ((c:Nat):Int)),(7,.bool true),(8,.str t),(10,.row 1<|(bL bd 5).map AVal.str),(13,.int .i64 ((n:Nat):Int)),(14,.int .i64 ((4+(Az bd n).length:Nat):Int))],[],139⟩) (λ_=>True) (Bw 0 frN<|fI<|fI<|fB<|fS<|fzC Z (Bg (v:=.row 1<|(bL bd 5).map AVal.str)<|Cb _)<|fI<|fI<|fI fzN) (Nat.zero_le _) ?_ ?_
 ·intro i hi;have hi:i≤n:=hi;by_cases hlt:i<n
  ·have h5:(bL bd 5).getD i []=bd i:=by grind[bL]
   have hsl:=Hu (bd:=bd) i;have hsle:=Vn bd (n:=i+1) (m:=5) Y;have hq:t.length=4+(Az bd 5).length:=by rw[ht,lAp];rfl
   have hi2:=Eg (f:=AVal.str) (l:=bL bd 5) (d:=[]) (s:=⟨.al [(52,.int .i64 ((i:Nat):Int)),(51,.row 1<|(bL bd 5).map AVal.str),(50,.int .i64<|((4+(Az bd i).length:Nat):Int)+9),(49,.int .i64 ((4+(Az bd i).length:Nat):Int)),(46,.bool true),(45,.int .i64 ((n:Nat):Int)),(44,.int .i64 ((i:Nat):Int)),(1,.int .i64 at_),(2,.int .u8 ((c:Nat):Int)),(7,.bool true),(8,.str t),(10,.row 1<|(bL bd 5).map AVal.str),(13,.int .i64 ((n:Nat):Int)),(14,.int .i64 ((4+(Az bd i).length:Nat):Int)),(15,.int .i64 ((i:Nat):Int))],[],139⟩) (G:=GL) (x:=.tmp 51) (i:=.tmp 52) (k:=1) Z Z Z (by grind);rw[h5]at hi2;refine Wm ?_;refine mS hi2 ?_ (hs:=by simp only[Ag,and_true,A0p];omega);refine Wm ?_;exact hoN (i+1) hlt Y<|Bw 0 frN<|fI<|fI<|fB<|fS<|fzC Z (Bg (v:=.row 1<|(bL bd 5).map AVal.str)<|Cb _)<|fI<|fzC Z (A40 Y)<|fI fzN
  ·have he:i=n:=by omega
   subst he;refine Wm ?_;exact hoE () O<|Bw 0 frN<|fI<|fI<|fB<|fS<|fzC Z (Bg (v:=.row 1<|(bL bd 5).map AVal.str)<|Cb _)<|fI<|fI fzN
 intro _ _;have h5:(bL bd 5).getD n []=bd n:=by simp[bL,List.getD_eq_getElem?_getD,hn]
 refine Wm ?_;have hsle:=Vn bd (n:=n) (m:=5) Y;have hsle2:=Vn bd (n:=n+1) (m:=5) Y;have hsl:=Hu (bd:=bd) n;have hq:t.length=4+(Az bd 5).length:=by rw[ht,lAp];rfl
 have hi3:=Eg (f:=AVal.str) (l:=bL bd 5) (d:=[]) (s:=⟨.al [(58,.int .i64 ((n:Nat):Int)),(57,.row 1<|(bL bd 5).map AVal.str),(1,.int .i64 at_),(2,.int .u8 ((c:Nat):Int)),(7,.bool true),(8,.str t),(10,.row 1<|(bL bd 5).map AVal.str),(13,.int .i64 ((n:Nat):Int)),(14,.int .i64 ((4+(Az bd n).length:Nat):Int))],[],139⟩) (G:=GL) (x:=.tmp 57) (i:=.tmp 58) (k:=1) Z Z Z (by grind);rw[h5]at hi3;refine mS hi3 ?_ (hs:=by simp only[Ag,and_true,A0p];omega);refine Wm ?_;have hq5:-9223372036854775808≤at_.tdiv 5∧at_.tdiv 5≤9223372036854775807:=by grind
 refine mI (at_.tdiv 5) Z ?_ (hs:=by simp_all[Ag]) (h1:=hq5.1) (h2:=hq5.2) (h3:=Z);have hp2:=Ac6 hg (c:=at_.tdiv 5) (n:=(bd n).length+4) hq5.1 hq5.2 Y;have hj:=Bm (c:=at_.tdiv 5) (n:=(bd n).length+4) Y;generalize B8 (at_.tdiv 5) ((bd n).length+4)=j at hp2 hj;generalize at_.tdiv 5=q5 at hp2;have hm:1+c%255<256:=Y;have hx0:∀y:UInt8,y+UInt8.ofNat (1+c%255)≠y:=λy e=>by have h:=congrArg UInt8.toNat e;grind[UInt8.toNat_add,UInt8.toNat_ofNat']
 have hxn:∀y:UInt8,IntKind.u8.wrap (((y.toNat:Nat):Int)+((1+c%255:Nat):Int))=(((y+UInt8.ofNat (1+c%255)).toNat:Nat):Int):=λy=>by grind[IntKind.wrap_u8,UInt8.toNat_add,UInt8.toNat_ofNat']
 obtain⟨hk1,⟨b',f',R,e1,e2,e3,e4⟩,s1,s2⟩:=turned ht hn hj<|hx0<|t.getD (4+(Az bd n).length+5+j) 0;have hul:(t.take (4+(Az bd n).length+5+j)++[t.getD (4+(Az bd n).length+5+j) 0+UInt8.ofNat (1+c%255)]++t.drop (4+(Az bd n).length+5+j+1)).length=t.length:=by grind
 have hxv:=hxn<|t.getD (4+(Az bd n).length+5+j) 0;generalize hx:t.getD (4+(Az bd n).length+5+j) 0+UInt8.ofNat (1+c%255)=x at hxv e1 s1 s2 hul;generalize hkk:4+(Az bd n).length+5+j=k at hk1 e1 s1 s2 hul hxv;have hdec:=decG (W0:=W0) hg hn e1 Y e3 e4;rw[e2]at hdec;refine Wm ?_;refine mKs (v:=.int .i64 ((c%255:Nat):Int)) Z (congrArg (AVal.int .i64) (by rw[w64 Y Y];grind[Int.ofNat_tmod])) ?_ (hs:=by simp_all[Ag]);refine mI ((1+c%255:Nat):Int) Z ?_;refine mKs (v:=.int .u8 ((1+c%255:Nat):Int)) Z (congrArg (AVal.int .u8) Aay) ?_;refine Wm ?_;refine ExM.fh (s1:=⟨.al [(7,.bool true),(8,.str t),(14,.int .i64 ((4+(Az bd n).length:Nat):Int)),(16,.int .i64 (((bd n).length:Nat):Int)),(17,.int .i64 ((k:Nat):Int)),(18,.int .u8 ((1+c%255:Nat):Int))],[],139⟩) (Bw 0 frN<|fB<|fS<|fI<|fI<|fzC Z (A40 Y)<|fI fzN) ?_;refine ExM.drawC hg ?_;refine Dm Z Z O Am<|Dm Z Z O Am<|Dm (v:=.str<|t.take k) Z Z A8s Am<|Dm Z Z O Am<|Dm Z Z O Am<|Dm (v:=.int .u8 (((t.getD k 0).toNat:Nat):Int)) Z Z Ld Am<|Dm Z Z O Am ?_;refine Dm (v:=.int .u8 ((x.toNat:Nat):Int)) (by show some (ARes.val (.int .u8<|IntKind.u8.wrap<|((t.getD k 0).toNat:Int)+((1+c%255:Nat):Int)) _ _)=_;rw[hxv]) Z A33 Am ?_;refine Rk (v:=.hsl 1 0 0 1<|some 1) Z Z O Z (by simp_all[pdN]) ?_;refine Dm (v:=.str [x]) (by show Kx _ (A8n [.cells 5 [.int .u8 ((x.toNat:Nat):Int)] false]<|.hsl 1 0 0 1<|some 1)=_;rw[bytes1];rfl) Z A33 Am ?_;refine Dm (v:=.str<|t.take k++[x]) Z Z (by simp only[Ag,and_true,List.length_take,List.length_singleton];omega) Am<|Dm Z Z O Am<|Dm Z Z O Am ?_;refine Dm (v:=.int .i64 ((k+1:Nat):Int)) (by show some (ARes.val (.int .i64<|IntKind.i64.wrap<|((k:Nat):Int)+1) _ _)=_;rw[w64 Y Y];rfl) Z A33 Am ?_;refine Dm (v:=.str<|t.drop<|k+1) Z Z A8s Am ?_;refine Dm (v:=.str<|t.take k++[x]++t.drop (k+1)) Z Z (by simp only[Ag,and_true,lAp,List.length_take,List.length_drop,List.length_singleton];omega) Am<|Dm Z Z O Am<|A23 Z ?_;generalize t.take k++[x]++t.drop (k+1)=u at hdec s1 s2 hul;have hd:=λH=>A5.pure (W0:=W0) (P:=Tryz.prog) Z Z hdec H;have c1:=λH=>A5.pure (W0:=W0) (P:=Tryz.prog) Z Z (A90 hg (s:=u) Y) H;have c2:=λH=>A5.pure (W0:=W0) (P:=Tryz.prog) Z Z (A90 hg (s:=t) Y) H;have c3:=λH=>A5.pure (W0:=W0) (P:=Tryz.prog) Z Z (A90 hg (s:=u.take<|k+1) (by grind)) H;have c4:=λH=>A5.pure (W0:=W0) (P:=Tryz.prog) Z Z (A90 hg (s:=t.take<|k+1) (by grind)) H;have cz:=λH=>A5.pure (W0:=W0) (P:=Tryz.prog) Z Z (sameZ hk) H;refine Wm ?_;refine kD ?_;refine vQ Z<|vQ Z<|qGY Z<|vQ Z<|qGY Z<|qBk (c:=true) Z Z Z<|vQ Z<|vQ Z<|qGY Z<|vQ Z<|qGY Z<|vQ Z<|?_;refine qGY Z<|qKv (v:=.int .i64 (((4+(Az bd n).length)+5:Nat):Int)) Z Z O (Bj Y Y Y)<|qGY Z<|vQ Z<|qGY Z<|qKv (v:=.int .i64 (((4+(Az bd n).length)+5+(bd n).length:Nat):Int)) Z Z O (Bj Y Y Y)<|qGY Z<|qBk (c:=true) Z Z Ax<|vQ Z<|vQ Z<|?_;refine qGY Z<|vQ Z<|qGY Z<|vQ Z<|qGY Z<|By Z Z (cz _)<|vQ Z<|vQ Z<|?_;refine qGY Z<|vQ Z<|qGY Z<|By Z Z (c1 _)<|qGY Z<|vQ Z<|qGY Z<|By Z Z (c2 _)<|qGY Z<|qBk (c:=true) Z Z (by grind)<|vQ Z<|vQ Z<|?_;refine qGY Z<|vQ Z<|qGY Z<|vQ Z<|qGY Z<|qKv (v:=.int .i64 ((k+1:Nat):Int)) Z Z O (Bj Y Y Y)<|qGY Z<|Ak (v:=.str<|u.take<|k+1) Z Z A8s<|qGY Z<|By Z Z (c3 _)<|qGY Z<|vQ Z<|qGY Z<|vQ Z<|?_;refine qGY Z<|qKv (v:=.int .i64 ((k+1:Nat):Int)) Z Z O (Bj Y Y Y)<|qGY Z<|Ak (v:=.str<|t.take<|k+1) Z Z A8s<|qGY Z<|By Z Z (c4 _)<|qGY Z<|qBk (c:=true) Z Z (by grind)<|vQ Z<|vQ Z<|Dl ?_;exact We
end Go.Abs
