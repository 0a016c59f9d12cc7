/- A part of the proof that tabula/tabulalaw25.PackSums returns true for every input, each argument reading as it did (its card: the last text). No conditions of its own. -/
import Derived.Test.YtjlpdflobkhkcaaGreatDoorPD
import Derived.Test.YtjlpdflobkhkcaaGreatDoorProg
import Derived.Test.YtjlpdflobkhkcaaGreatDoorShelf
import Derived.WalkKit
import Derived.Sort.OwnSorted
import Derived.Lib.SlicesCompact
import Derived.Shelf.Strings.Builder1
import Derived.WalkSpells
set_option linter.unusedVariables false
set_option linter.unusedSimpArgs false
namespace Go.Abs
open Go.RowKit
def Ux (RC:FuncId→List AVal→AVal→Prop)(G:List<|Nat×AVal)(H:Hz)(n:Nat)(op:AOp)(e:Env)(v:AVal):Prop:=match aop G ⟨e,H,n⟩ op with|some (.val u _ _)=>v=u|some (.call f args)=>RC f args v|_=>False
section
variable (P : Program) (W0 : World) (G : List (Nat × AVal)) (RC : FuncId → List AVal → AVal → Prop) (HB : Bool → Hz) (ja : Option Nat) (n : Nat)
def Uo (j:Nat)(op:AOp)(e:Env):Prop:=match aop G ⟨e,HB false,n⟩ op with|some (.val u H' side)=>Ag side∧(ja=some j∧H'=HB true∨ja≠some j∧H'=HB false∧aop G ⟨e,HB true,n⟩ op=some (.val u (HB true) side))|some (.call f args)=>ja≠some j∧aop G ⟨e,HB true,n⟩ op=some (.call f args)∧As P W0 f args (RC f args)∧Ab 0 args=true∧(∀v,RC f args v→blw 0 v=true)∧∃v,RC f args v|_=>False
def Gs :List AOper→Nat→Env→(St→Prop)→Prop
 | [],_,_,_=>False
 |o::r,j,e,K=>match r with
  | []=>Eq o.dst n=true∧I6 P W0 G o ⟨e,HB ja.isSome,n⟩ K|_::_=>o.guard=none∧Eq o.dst n=true∧Uo P W0 G RC HB ja n j o.op e∧∀v,Ux RC G (HB false) n o.op e v→Gs r (j+1) (G3 o.dst v e) K
end
section
variable {P : Program} {W0 : World} {G : List (Nat × AVal)} {RC : FuncId → List AVal → AVal → Prop} {HB : Bool → Hz} {ja : Option Nat} {n : Nat}
theorem Uo.ex {j:Nat}{op:AOp}{e:Env}(h:Uo P W0 G RC HB ja n j op e):∃v,Ux RC G (HB false) n op e v:=by unfold Uo at h;unfold Ux;split at h<;>grind
theorem Ul {ops:Array Oper}{o:Oper}{a:AOper}(h:Be P ops o=some a):Ar P o.op=some a.op∧(a.guard=none→o.guard=none):=by
 unfold Be at h;cases hg:D7 ops o.guard with
 |none=>rw[hg]at h;cases h
 |some g=>
  rw[hg]at h;simp only at h;cases hop:Ar P o.op with
  |none=>rw[hop]at h;cases h
  |some op=>
   rw[hop]at h;injection h with h;subst h;refine⟨Z,λhn=>?_⟩;simp only at hn;cases ho:o.guard with
   |none=>rfl
   |some q=>
    obtain⟨j,w⟩:=q;rw[ho]at hg;simp only[D7]at hg;cases hd:(ops[j]?).bind (·.dst)with
    |none=>rw[hd]at hg;cases hg
    |some d=>rw[hd]at hg;injection hg with hg;rw[hn]at hg;cases hg
theorem A84 {ops:Array Oper}{l:List AOper}{s:St}{K:St→Prop}{R:Nat→Env→AVal→Prop}(hl:∀(j:Nat) (a:AOper),l[j]?=some a→∃o,ops[j]?=some o∧Be P ops o=some a)
 (hR:∀(j:Nat) (a:AOper) (e:Env) (v:AVal),l[j]?=some a→(R j e v↔Ux RC G (HB false) n a.op e v)) (h:Gs P W0 G RC HB ja n l 0 s.env K):
 ∀(vs:Nat→AVal) (k:Nat),k<l.length→Y4 ops s.env R vs k→Gs P W0 G RC HB ja n (l.drop k) k (I4 ops s.env vs k) K:=by
 intro vs k;induction k with|zero=>intro _ _;exact h|succ k ih=>intro hk hv;have hk0:k<l.length:=Y;have h1:=ih hk0 λi hi=>hv i Y;have hd:l.drop k=l[k]::l.drop (k+1):=List.drop_eq_getElem_cons hk0;have hd1:l.drop (k+1)=l[k+1]::l.drop (k+2):=List.drop_eq_getElem_cons hk;rw[hd,hd1]at h1;obtain⟨_,_,_,h2⟩:=h1;have ha:l[k]?=some l[k]:=gGe hk0;obtain⟨o,ho,hc⟩:=hl k _ ha;have h3:=h2 (vs k)<|(hR k _ _ _ ha).1 (hv k Y);rw[hd1];simp only[I4,ho];rw[←D9 hc];exact h3
theorem ExM.drawP (hg:Gr P W0 G){m:Nat}(RC:FuncId→List AVal→AVal→Prop)(HB:Bool→Hz)(ja:Option Nat){l:List AOper}{p:SP}{s:St}{K:Ai→St→Prop}(hb0:HB false=s.H)
 (hlast:((List.range<|l.length-1).all λi=>p.msk (l.length-1) i)=true) (hja:∀j,ja=some j→j<l.length-1) (h:Gs P W0 G RC HB ja s.n l 0 s.env<|K .normal):ExM P W0 m (.drawC l p) s K:=ExM.of λc hc=>by
 obtain⟨id,ops,rfl,h1,h2⟩:=U9 hc;obtain⟨hcl,hcg⟩:=Da h1;have hsz:l.length=ops.size:=Y;have hpos:0<l.length:=by cases l with|nil=>exact h.elim|cons _ _=>simp
 have hl:∀j a,l[j]?=some a→∃o,ops[j]?=some o∧Be P ops o=some a:=λj a ha=>by have hj:=(List.getElem?_eq_some_iff.1 ha).1;have ho:ops[j]?=some (ops[j]'(Y)):=Array.getElem?_eq_getElem Y;obtain⟨a',e1,e2⟩:=hcg j _ (by rw[Array.getElem?_toList];exact ho);rw[ha]at e1;injection e1 with e1;subst e1;exact⟨_,ho,e2⟩
 let R:Nat→Env→AVal→Prop:=λj e v=>match l[j]? with
  |some a=>Ux RC G (HB false) s.n a.op e v|none=>False
 have hR:∀j a e v,l[j]?=some a→(R j e v↔Ux RC G (HB false) s.n a.op e v):=λj a e v ha=>by grind
 have hat:=A84 (s:=s) hl hR h;have hex:∀vs k,k<l.length-1→Y4 ops s.env R vs k→∃v,R k (I4 ops s.env vs k) v:=λvs k hk hv=>by have hk0:k<l.length:=Y;have h3:=hat vs k hk0 hv;have hd:l.drop k=l[k]::l.drop (k+1):=List.drop_eq_getElem_cons hk0;have hd1:l.drop (k+1)=l[k+1]'(Y)::l.drop (k+2):=List.drop_eq_getElem_cons Y;rw[hd,hd1]at h3;obtain⟨v,hv⟩:=h3.2.2.1.ex;exact⟨v,(hR k _ _ _<|gGe hk0).2 hv⟩
 have hdst:∀(j:Nat) (a:AOper),l[j]?=some a→Eq a.dst s.n=true:=by obtain⟨vs,hv,_⟩:=A0r (ops:=ops) (e0:=s.env) hex (λ_=>False) (λ_=>.nilIf) (λ_ _ _ h=>h.elim) (l.length-1)<|Nat.le_refl _;intro j a ha;have hj:=(List.getElem?_eq_some_iff.1 ha).1;have h3:=hat vs j hj λi hi=>hv i Y;grind[List.drop_eq_getElem_cons,Gs]
 have hok:=h2;simp only[J1,bAt]at hok;obtain⟨⟨⟨⟨k1,_⟩,_⟩,_⟩,k5⟩:=hok;have hN:p.n=ops.size:=nBq k1;have hat1:∀(j:Nat) (o:Oper),ops[j]?=some o→(∀e∈o.after,Region.binds .any e=true→e.on<j)∧p.mask.getD j 0=O0 p.mask o∧
  ∀(i:Nat) (oi:Oper) (d:Nat),ops[i]?=some oi→oi.dst=some d→(i=j∨o.dst≠some d)∧(d∈reads P ops o→p.msk j i=true∨p.msk i j=true):=by
  intro j o ho;have:=List.all_eq_true.1 k5 j<|List.mem_range.2 (Array.getElem?_eq_some_iff.1 ho).1;rw[ho]at this;simp only[Tn,bAt]at this;obtain⟨⟨⟨a1,a2⟩,_⟩,a4⟩:=this;refine⟨λe he hb=>?_,nBq a2,λi oi d hi hd=>?_⟩;·have:=List.all_eq_true.1 a1 e (by grind);simp_all
  ·have:=List.all_eq_true.1 a4 i<|List.mem_range.2 (by grind);rw[hi]at this;simp only[Option.bind_some,hd,bAt,Bool.or_eq_true]at this;obtain⟨b1,b2⟩:=this;refine⟨?_,λhr=>?_⟩
   ·rcases b1 with b1|b1;·simp_all
    ·refine .inr λhod=>?_;simp_all[A2v]
   ·have:=List.all_eq_true.1 b2 d hr;simp_all
 have hord:Ord P ops s.n p.msk:=by
  refine⟨λj o ho=>(hat1 j o ho).1,λj o i ho hm=>?_,λi j oi oj t hi hj e1 e2=>?_,λj oj t hj ht i oi hi hti=>((hat1 j oj hj).2.2 i oi t hi hti).2 ht,λj o ho=>?_⟩;·have hm':tb (p.mask.getD j 0) i=true:=hm;rw[(hat1 j o ho).2.1]at hm';exact Pm hm'
  ·grind
  ·obtain⟨a,ha,hca⟩:=hcg j o (by grind);grind[D9]
 have hcong:∀(j:Nat) (o:Oper) (a:AOper) (e e':Env) (b:Bool),l[j]?=some a→Be P ops o=some a→(∀t∈reads P ops o,e.get t=e'.get t)→aop G ⟨e,HB b,s.n⟩ a.op=aop G ⟨e',HB b,s.n⟩ a.op:=λj o a e e' b ha hca ht=>by grind[Z1,reads,Ul]
 have hput:∀(a:Act) (dst:Option Tmp) (v:Value),(a.put dst v).defers=a.defers:=λa dst v=>Yv;intro F bs x w hs Q hq;refine wp_region_any hg.mixed ?_;have hext:=Ext.drawn bs s.H w<|w.drawn+1;refine A7m (P:=P) (W0:=W0) (F:=F) (s:=s) (M:=l.length-1) Y hord (λi hi=>List.all_eq_true.1 hlast i<|List.mem_range.2 hi) (R:=R) (HB:=HB) (ja:=ja) hja (K:=K .normal) ?_ hex ?_ ?_ (bs:=bs) (a0:=x) (w0:=w) (λs' bs' a' w' e1 e2 e3 e4=>hq .normal s' bs' a' w' e1 e2 e3 e4) ops.size _ x _ ⟨Ax,λj o ho hl'=>?_,?_,?_⟩ ?_;·intro j o e e' v ho ht hv;obtain⟨a,ha,hca⟩:=hcg j o (by grind);grind[Ux]
 ·intro vs j o hj ho hv b e' bs1 a1 w1 next Q1 hb ht hrs hn
  have hj0:j<l.length:=Y;have h3:=hat vs j hj0 hv;have hd:l.drop j=l[j]::l.drop (j+1):=List.drop_eq_getElem_cons hj0;have hd1:l.drop (j+1)=l[j+1]'(Y)::l.drop (j+2):=List.drop_eq_getElem_cons Y;rw[hd,hd1]at h3;obtain⟨q1,q2,q3,_⟩:=h3;have ha:l[j]?=some l[j]:=gGe hj0;obtain⟨o',ho',hca⟩:=hl j _ ha;rw[ho]at ho';injection ho' with ho';subst ho';obtain⟨c1,c2⟩:=Ul hca;have hRj:=λv=>hR j _ (I4 ops s.env vs j) v ha;unfold Uo at q3;have hval:∀(u:AVal) (side:List<|Int×Int) (H':Hz),Ag side→aop G ⟨e',HB b,s.n⟩ l[j].op=some (.val u H' side)→H'=HB (decide (ja=some j)||b)→R j (I4 ops s.env vs j) u→OpGo P ops o a1 w1 next Q1:=by
   intro u side H' hsd hop hH hr;subst hH;have hev:Bl P W0 G l[j] ⟨e',HB b,s.n⟩ λv' X=>v'=u∧X=HB (decide (ja=some j)||b):=by unfold Bl;rw[q1];simp only[hop];exact⟨hsd,Z,Z⟩
   have hop2:=Q2 (s:=⟨e',HB b,s.n⟩) (I3 hca hev) (by grind[D9]);exact Ir hg.g hrs hop2 λs' bs' a' w' hk h4 h5 h6=>by grind
  cases hr:aop G ⟨I4 ops s.env vs j,HB false,s.n⟩ l[j].op with
  |none=>rw[hr]at q3;exact q3.elim
  |some r=>
   rw[hr]at q3;cases r with
   |skip _=>exact q3.elim
   |val u H' side=>
    have hRv:∀v,R j (I4 ops s.env vs j) v↔v=u:=λv=>by grind[Ux]
    obtain⟨hsd,⟨hjj,hH⟩|⟨hjj,hH,hop2⟩⟩:=q3;·have hbf:=hb hjj;subst hbf;refine hval u side H' hsd ?_ (by grind)<|(hRv u).2 Z;grind
    ·have hdec:(decide (ja=some j)||b)=b:=by simp[hjj]
     cases b with|false=>exact hval u side H' hsd (by grind) (by grind) ((hRv u).2 rfl)|true=>exact hval u side (HB true) hsd (by grind) (by rw[hdec])<|(hRv u).2 rfl
   |call f args=>
    have hRv:∀v,R j (I4 ops s.env vs j) v↔RC f args v:=λv=>by grind[Ux]
    obtain⟨hjj,hop2,hc,hbl,hbv,_⟩:=q3;have hdec:(decide (ja=some j)||b)=b:=by simp[hjj]
    have hop:aop G ⟨e',HB b,s.n⟩ l[j].op=some (.call f args):=by cases b<;>grind
    have hgd:Cj ops ⟨e',HB b,s.n⟩ o.guard=some true:=by rw[c2 q1];rfl
    unfold OpGo;rw[Oo hrs hgd];simp only[if_true];refine .inl ?_;have hok:=Xc (P:=P) hg.g hrs c1 hop;obtain⟨cargs,r1,r2⟩:=hok hc.1;unfold Oper.wp;rw[r1,Oper.upon_enter];refine Calls.mono (hc.at hbl hbv hrs.heap r2) λe2 w2 he2=>?_;obtain⟨v,cv,k1,rfl,k3,k4,k5⟩:=he2;have hpp:Rx (⟨e',HB b,s.n⟩:St) o.dst v (HB b) λs'=>s'=⟨G3 o.dst v e',HB b,s.n⟩:=by have hdo:=hord.dst j o ho;cases hod:o.dst with|none=>exact rfl|some d=>rw[hod]at hdo;exact⟨hdo,rfl⟩
    obtain⟨s',hK,hrs',hH⟩:=hrs.put (dst:=o.dst) k3 k4 k5 hpp;subst hK;refine hn v bs1 _ w2 ((hRv v).2 k1) ?_ ?_<|hput _ _ _;·grind
    ·grind
 ·intro vs o ho hv e' bs1 a1 w1 next Q1 he hrs hn
  have hj0:l.length-1<l.length:=Y;have h3:=hat vs _ hj0 hv;have hd:l.drop (l.length-1)=[l[l.length-1]]:=by grind[List.drop_eq_getElem_cons]
  rw[hd]at h3;have ha:l[l.length-1]?=some l[l.length-1]:=gGe hj0;obtain⟨o',ho',hca⟩:=hl _ _ ha;rw[ho]at ho';injection ho' with ho';subst ho';exact Ir hg.g (hrs.env_eq he) (S9 hca h3.2) λs' bs' a' w' hk h4 h5 h6=>hn s' bs' a' w' hk h4 h5 h6
 ·have:=(Array.getElem?_eq_some_iff.1 ho).1;simp_all
 ·have:l.length-1<ops.size:=by omega
  simp_all
 ·obtain⟨vs,hv,_⟩:=A0r (ops:=ops) (e0:=s.env) hex (λ_=>False) (λ_=>.nilIf) (λ_ _ _ h=>h.elim) (l.length-1)<|Nat.le_refl _;have hlb:lbOf ja (Array.replicate ops.size false)=false:=by cases hja':ja with|none=>rfl|some q=>have:=hja q hja';show(Array.replicate ops.size false).getD q true=false;simp[Array.getD_eq_getD_getElem?,show q<ops.size by omega]
  refine⟨vs,s.env,bs,hv,?_,?_,Z,λt=>.inr ⟨λi o ho _ hl'=>?_,Z⟩⟩;·rw[hlb,hb0];refine⟨⟨hs.heap.len,hs.heap.base.trans ?_,hs.heap.low,hs.heap.nodup,hs.heap.forb,λi o b h1 h2=>(hs.heap.obj i o b h1 h2).ext hext Z⟩,hs.size,λt v hv=>(hs.env t v hv).ext hext⟩;exact⟨Z,Z,Z,Nat.le_refl _,λ_ _=>Z⟩
  ·grind
  ·have:=(Array.getElem?_eq_some_iff.1 ho).1;simp_all
 grind[unl]
end
section
variable {P : Program} {W0 : World} {G : List (Nat × AVal)} {RC : FuncId → List AVal → AVal → Prop} {HB : Bool → Hz} {ja : Option Nat} {n j d : Nat} {l : List (Nat × AVal)} {op : AOp} {r0 : AOper} {r : List AOper} {K : St → Prop}
theorem rV {v:AVal}{side:List (Int×Int)}(h:aop G ⟨.al l,HB false,n⟩ op=some (.val v (HB false) side))(k:Gs P W0 G RC HB ja n (r0::r) (j+1) (.al ((d,v)::l)) K)(h':aop G ⟨.al l,HB true,n⟩ op=some (.val v (HB true) side):=by with_unfolding_all exact rfl)(hj:ja≠some j:=by decide)(hd:(Nat.blt d n&&Nat.blt d 4094)=true:=by with_unfolding_all rfl)(hs:Ag side:=by first|with_unfolding_all exact trivial|with_unfolding_all decide|(with_unfolding_all simp only[Ag,and_true];omega)):Gs P W0 G RC HB ja n (⟨some d,none,op⟩::r0::r) j (.al l) K:=by
 refine⟨rfl,hd,?_,λu hu=>?_⟩;·grind[Uo]
 ·unfold Ux at hu;simp only[h]at hu;subst hu;exact k
theorem rK {v v0:AVal}{side:List (Int×Int)}(h:aop G ⟨.al l,HB false,n⟩ op=some (.val v0 (HB false) side))(hv:v0=v)(k:Gs P W0 G RC HB ja n (r0::r) (j+1) (.al ((d,v)::l)) K)(h':aop G ⟨.al l,HB true,n⟩ op=some (.val v0 (HB true) side):=by with_unfolding_all exact rfl)(hj:ja≠some j:=by decide)(hd:(Nat.blt d n&&Nat.blt d 4094)=true:=by with_unfolding_all rfl)(hs:Ag side:=by first|with_unfolding_all exact trivial|with_unfolding_all decide|(with_unfolding_all simp only[Ag,and_true];omega)):Gs P W0 G RC HB ja n (⟨some d,none,op⟩::r0::r) j (.al l) K:=by grind[rV]
theorem rA {v:AVal}{side:List (Int×Int)}(h:aop G ⟨.al l,HB false,n⟩ op=some (.val v (HB true) side))(k:Gs P W0 G RC HB ja n (r0::r) (j+1) (.al ((d,v)::l)) K)(hj:ja=some j:=by rfl)(hd:(Nat.blt d n&&Nat.blt d 4094)=true:=by with_unfolding_all rfl)(hs:Ag side:=by with_unfolding_all exact trivial):Gs P W0 G RC HB ja n (⟨some d,none,op⟩::r0::r) j (.al l) K:=by
 refine⟨rfl,hd,?_,λu hu=>?_⟩;·grind[Uo]
 ·unfold Ux at hu;simp only[h]at hu;subst hu;exact k
theorem rC {f:Nat}{args:List AVal}(h:aop G ⟨.al l,HB false,n⟩ op=some (.call f args))(hc:As P W0 f args<|RC f args)(hb:Ab 0 args=true)(hv:∀v,RC f args v→blw 0 v=true)(hx:∃v,RC f args v)(k:∀v,RC f args v→Gs P W0 G RC HB ja n (r0::r) (j+1) (.al ((d,v)::l)) K)(h':aop G ⟨.al l,HB true,n⟩ op=some (.call f args):=by with_unfolding_all exact rfl)(hj:ja≠some j:=by decide)(hd:(Nat.blt d n&&Nat.blt d 4094)=true:=by with_unfolding_all rfl):Gs P W0 G RC HB ja n (⟨some d,none,op⟩::r0::r) j (.al l) K:=by
 refine⟨rfl,hd,?_,λu hu=>?_⟩;·grind[Uo]
 ·unfold Ux at hu;simp only[h]at hu;exact k u hu
theorem rD {f:Nat}{args:List AVal}{v:AVal}(h:aop G ⟨.al l,HB false,n⟩ op=some (.call f args))(hc:A5 P W0 f args [] v [])(hR:∀u,RC f args u↔u=v)(k:Gs P W0 G RC HB ja n (r0::r) (j+1) (.al ((d,v)::l)) K)(hb:Ab 0 args=true:=by rfl)(hv:blw 0 v=true:=by rfl)(h':aop G ⟨.al l,HB true,n⟩ op=some (.call f args):=by with_unfolding_all exact rfl)(hj:ja≠some j:=by decide)(hd:(Nat.blt d n&&Nat.blt d 4094)=true:=by with_unfolding_all rfl):Gs P W0 G RC HB ja n (⟨some d,none,op⟩::r0::r) j (.al l) K:=rC h ((As.of hc).mono λu hu=>(hR u).2 hu) hb (λu hu=>by grind) ⟨v,(hR v).2 rfl⟩ (λu hu=>by grind) h' hj hd
theorem rL {H':Hz}(h:aop G ⟨.al l,HB ja.isSome,n⟩ op=some (.skip H'))(k:K ⟨.al l,H',n⟩):Gs P W0 G RC HB ja n [⟨none,none,op⟩] j (.al l) K:=by refine⟨rfl,?_⟩;simp only[I6,h];exact k
end
section
variable {P : Program} {W0 : World} {m : Nat} {σ : Type} {st : σ → St} {I : σ → Prop} {μ : σ → Nat} {i : σ} {K : Ai → St → Prop} {s : St}
def haK (m:Nat)(st:σ→St)(I:σ→Prop)(μ:σ→Nat)(i:σ)(K:Ai→St→Prop)(e:Ai)(s:St):Prop:=e.then s (λs'=>∃j,I j∧μ j<μ i∧Fh m (st j) s') K
theorem haN (j:σ)(hI:I j)(hm:μ j<μ i)(hf:Fh m (st j) s):haK m st I μ i K .normal s:=⟨j,hI,hm,hf⟩
theorem haE {id:Nat}(h:K (.exit id) s):haK m st I μ i K (.exit id) s:=h
end
theorem ExM.lpA {P:Program}{W0:World}{m:Nat}{c:ACode}{σ:Type}(st:σ→St)(I:σ→Prop)(μ:σ→Nat)(i:σ){s:St}{K:Ai→St→Prop}(h0:Fh m (st i) s)(hI:I i)
 (round:∀i,I i→ExM P W0 m c (st i) (haK m st I μ i K)):ExM P W0 m (.loop c) s K:=λk hk=>by
 obtain⟨k',rfl,hk'⟩:=G8 hk;intro F bs a w hs bs0 H0 w0 hm he Q hq;refine Ew (σ:=σ) (λi a' w'=>∃bs',I i∧RS W0 F bs' (st i) a' w'∧Ext bs0 H0 w0 bs' (st i).H w'∧a'.defers=a.defers) μ (s:=i) ?_ ?_;·obtain⟨bs',h1,h2⟩:=hs.fh h0 he hm;grind
 ·rintro i a1 w1 ⟨bs1,hi,hrs1,hext1,hd1⟩;refine round i hi k' hk' F bs1 a1 w1 hrs1 bs0 H0 w0 hm hext1 _ λe s' bs' a' w' hkk hrs hext hd=>?_;cases e with
  |normal=>obtain⟨j,hj,hlt,hw⟩:=hkk;obtain⟨bs2,h1,h2⟩:=hrs.fh hw hext hm;exact⟨j,⟨bs2,hj,h1,h2,hd.trans hd1⟩,hlt⟩
  |ret=>exact hq .ret s' bs' a' w' hkk hrs hext (hd.trans hd1)|exit q=>exact hq (.exit q) s' bs' a' w' hkk hrs hext<|hd.trans hd1
def Xy (P:Program)(W0:World)(g:FuncId)(caps:List AVal)(v:AVal)(H H2:Hz):Prop:=
 ∀(F:Nat→Prop) (bs:List Nat) (w:World) (cap:List Value) (cv:Value),Ad W0 F bs H w→Aa F bs H w caps cap→Rep F bs H w v cv→
  CallsD P g cap.toArray (.panicking<|pch cv) w λe u' w'=>e= .returned (.tuple #[])∧u'= .panicking [{v:=cv,recovered:=true}]∧∃bs',Ad W0 F bs' H2 w'∧Ext bs H w bs' H2 w'
section
variable {P : Program} {W0 : World} {G : List (Nat × AVal)}
theorem A5.of_rec (hg:Gr P W0 G){f:FuncId}{fn:Func}{r0 r1 rest:Code}{a0 a1 ar:ACode}{id t:Nat}{g:FuncId}{ops:Array Oper}{o0 o1:Oper}{ao:AOper}(hf:P.funcs[f]?=some fn)(hb:fn.body=some (.seq r0<|.seq r1<|.seq (.region id ops false) rest))
 (hnm:fn.name≠ "runtime.NumGoroutine") (hgb:Ed P g) (c0:Bq P r0=some a0) (c1:Bq P r1=some a1) (cr:Bq P rest=some ar) (co:Be P ops o0=some ao)
 (hops:ops= #[o0,o1]) (h1g:o1.guard=none) (h1d:o1.dst=none) (h1c:∃c,o1.op= .defer c∧c.callee= .value (.tmp t)∧c.args= #[])
 {args:List AVal}{H:Hz}{v vo:AVal}{Ho:Hz} (hl:args.length≤4094)
 (h:ExM P W0 H.length a0 ⟨.al (Ej 0 args),H,args.length+(fn.ntmps-args.length)⟩ λe s0=>e= .normal∧ExM P W0 H.length a1 s0 λe s1=>e= .normal∧I6 P W0 G ao s1 λs2=>∃caps,s2.env.get t=some (.fn g [] caps)∧
  ExP P W0 s2.H.length ar s2 v λs3=>∃H2,Xy P W0 g caps v s3.H H2∧∃vs,Dx P ⟨s3.env,H2,s3.n⟩ fn.results.toList=some vs∧L5 H.length (C9 vs) H2=(vo,Ho)):
 A5 P W0 f args H vo Ho:=by
 refine⟨⟨fn,_,hf,hb,hnm⟩,λF bs w cargs hh hr=>?_⟩;refine calls_of_wp_defers hf hb ?_;have hrs:=G7 hh hr hl fn.ntmps;have hrs':RS W0 F bs ⟨.al<|Ej 0 args,H,args.length+(fn.ntmps-args.length)⟩ {tmps:=cargs.toArray++Array.replicate (fn.ntmps-cargs.toArray.size) undef,defers:=[]} w:=
  ⟨hrs.heap,hrs.size,λt u hu=>hrs.env t u (by
   rw[Ds args 0 .leaf t Y];have hu:lk t (Ej 0 args)=some u:=hu;rw[Je]at hu
   grind)⟩
 refine wp_seq<|h r0 c0 F bs _ w hrs' bs H w Z (Ext.refl _ _ _) _ λe s0 bs0 a0' w0 hk hrs0 hext0 hd0=>?_;obtain⟨rfl,hk⟩:=hk;show(Code.seq r1 _).wp P _ a0' w0;refine wp_seq<|hk r1 c1 F bs0 a0' w0 hrs0 bs H w Z hext0 _ λe s1 bs1 a1' w1 hk hrs1 hext1 hd1=>?_;obtain⟨rfl,hk⟩:=hk;show(Code.seq _ rest).wp P _ a1' w1;refine wp_seq ?_;refine wp_region ?_;have hP:=S9 co hk;subst hops;have hrg:List.range (#[o0,o1]:Array Oper).size=[0,1]:=rfl;rw[hrg];simp only[wpOps,List.getElem?_toArray,List.getElem?_cons_zero,List.getElem?_cons_succ];refine Ir hg.g hrs1 hP λs2 bs2 a2 w2 hk hrs2 hext2 hdf=>?_;obtain⟨caps,hc,hk⟩:=hk;have hrep:=hrs2.env t _ hc;simp only[Rep,Aa]at hrep;obtain⟨fs,cs,hv,rfl,hcs⟩:=hrep;obtain⟨cl,hop,hcal,hargs⟩:=h1c;have hw:Region.wanted o1 (yielded #[o0,o1] a2.tmps)=true:=by simp[Region.wanted,h1g]
 rw[if_pos hw];refine .inl ?_;have hexec:(execOp a2.eval o1).run P w2= .ok (.defer ⟨.fn (.func g) cs.toArray,#[]⟩) w2:=by
  have hev:a2.eval (.tmp t)= .func (.func g) #[] cs.toArray:=by show a2.tmps.getD t undef=_;exact hv
  simp_all[execOp,resolve,Deferred.ofValue]
 unfold Oper.wp;rw[hexec,Oper.upon_defer];have hput:({a2 with defers:=⟨.fn (.func g) cs.toArray,#[]⟩::a2.defers}:Act).put o1.dst undef={a2 with defers:=⟨.fn (.func g) cs.toArray,#[]⟩::a2.defers}:=by rw[h1d];rfl
 rw[hput];have hrs2':RS W0 F bs2 s2 {a2 with defers:=⟨.fn (.func g) cs.toArray,#[]⟩::a2.defers} w2:=⟨hrs2.heap,hrs2.size,hrs2.env⟩;refine hk rest cr F bs2 _ w2 hrs2' bs2 s2.H w2 Z (Ext.refl _ _ _) _ λcv s3 bs3 a3 w3 hk hrs3 hrep3 hext3 hd3=>?_;obtain⟨H2,hrec,vs,hvs,hlv⟩:=hk;have hcs3:=Aa.ext hext3 caps cs hcs;have hdef:a3.defers=[⟨.fn (.func g) cs.toArray,#[]⟩]:=by grind
 have hinv:(invoke (.fn (.func g) cs.toArray) #[]).run P w3= .ok (.enter g cs.toArray) w3:=by obtain⟨fg,cg,k1,k2,k3⟩:=hgb;show(callFunc g<|#[]++cs.toArray).run P w3=_;simp_all[callFunc]
 show Leaves P fn a3.tmps _ a3.defers (.panicking<|pch cv) w3;rw[hdef];refine⟨Ax,.func g,cs.toArray,g,cs.toArray,Z,hinv,?_⟩;refine(hrec F bs3 w3 cs cv hrs3.heap hcs3 hrep3).mono ?_;rintro e u' w4 ⟨rfl,rfl,bs4,hh4,hext4⟩;have hrs4:RS W0 F bs4 ⟨s3.env,H2,s3.n⟩ a3 w4:=⟨hh4,hrs3.size,λt u hu=>Rep.ext hext4 u _<|hrs3.env t u hu⟩;obtain⟨cv',h1,h2⟩:=G5 hrs4 hvs;have hextA:Ext bs H w bs4 H2 w4:=((hext1.trans hext2).trans hext3).trans hext4;obtain⟨bs5,h3,h4,h5⟩:=R1 hh4 hextA h2;rw[hlv]at h3 h4 h5;exact⟨cv',h1,cv',bs5,Z,h3,h4,h5⟩
theorem Xy.of {g:FuncId}{fn:Func}{id0 t:Nat}{o0:Oper}{rest:Code}{ar:ACode}(hf:P.funcs[g]?=some fn)(hb:fn.body=some (.seq (.region id0 #[o0] false) rest))(hgd:o0.guard=none)(hd:o0.dst=some t)
 (hrec:∀(a:Act) (w:World),(execOp a.eval o0).run P w= .ok .recover w) (cr:Bq P rest=some ar) (hres:fn.results= #[]) {caps:List AVal}{v:AVal}{H H2:Hz} (hl:caps.length≤4094) {n:Nat} (hn:caps.length+(fn.ntmps-caps.length)=n) (ht:(Nat.blt t n&&Nat.blt t 4094)=true)
 (h:ExM P W0 H.length ar ⟨.al ((t,v)::Ej 0 caps),H,n⟩ λe s'=>(match e with|.exit _=>False|_=>True)∧s'.H=H2):Xy P W0 g caps v H H2:=by
 intro F bs w cap cv hh hcap hcv;subst hn;refine callsD_of_wpS hf hb λc₀ cs hu=>?_;apply wpS_seq;apply wpS_region;have hrg:List.range (#[o0]:Array Oper).size=[0]:=rfl;rw[hrg];simp only[wpOpsS,List.getElem?_toArray,List.getElem?_cons_zero];have hw:∀x:Array Value,Region.wanted o0 (yielded #[o0] x)=true:=λx=>A6l;rw[if_pos<|hw _,hrec];have hrc:recoverD (c₀::cs)=some (cv,{c₀ with mode:=.panicking [{v:=cv,recovered:=true}]}::cs):=by simp[recoverD,hu,pch]
 simp only[hrc];have hrs:=G7 hh hcap hl fn.ntmps;have hrs':RS W0 F bs ⟨.al<|Ej 0 caps,H,caps.length+(fn.ntmps-caps.length)⟩ {tmps:=cap.toArray++Array.replicate (fn.ntmps-cap.toArray.size) undef,defers:=[]} w:=
  ⟨hrs.heap,hrs.size,λt u hu=>hrs.env t u (by
   rw[Ds caps 0 .leaf t Y];have hu:lk t (Ej 0 caps)=some u:=hu;rw[Je]at hu
   grind)⟩
 obtain⟨s',hK,hrs2,hH⟩:=hrs'.put (dst:=o0.dst) (K:=λs'=>s'=⟨.al ((t,v)::Ej 0 caps),H,caps.length+(fn.ntmps-caps.length)⟩) hcv hh (Ext.refl _ _ _) (by rw[hd];exact⟨ht,rfl⟩);subst hK;show rest.wpS P _ _ _ _;refine wpS_of_wp<|h rest cr F bs _ w hrs2 bs H w Z (Ext.refl _ _ _) _ λe s' bs' a' w' hk hrs hext hdf=>?_;obtain⟨hne,rfl⟩:=hk;have hput:∀(a:Act) (dst:Option Tmp) (v:Value),(a.put dst v).defers=a.defers:=λa dst v=>Yv;have hdn:a'.defers=[]:=by grind
 have fin:∃u',({c₀ with mode:=.panicking [{v:=cv,recovered:=true}]}::cs:List Frame)={c₀ with mode:=u'}::cs∧∃r,(results fn a'.tmps).run P w'= .ok r w'∧(Ending.returned r= .returned (.tuple #[])∧u'= .panicking [{v:=cv,recovered:=true}]∧∃bs',Ad W0 F bs' s'.H w'∧Ext bs H w bs' s'.H w'):=⟨_,rfl,.tuple #[],by simp[results,hres],rfl,rfl,bs',hrs.heap,hext⟩;cases e with|normal=>exact⟨hdn,fin⟩|ret=>exact⟨hdn,fin⟩|exit id=>exact hne.elim
end
section
variable {P : Program} {W0 : World} {G : List (Nat × AVal)}
theorem Xy.of2 {g:FuncId}{fn:Func}{id0 t t2:Nat}{o0 o1:Oper}{rest:Code}{ar:ACode}(hf:P.funcs[g]?=some fn)(hb:fn.body=some (.seq (.region id0 #[o0,o1] false) rest))(hgd:o0.guard=none)(hd:o0.dst=some t)(hgd1:o1.guard=none)(hd1:o1.dst=some t2)
 (hrec:∀(a:Act) (w:World),(execOp a.eval o0).run P w= .ok .recover w) (hmv:∀(a:Act) (w:World),(execOp a.eval o1).run P w= .ok (.value<|a.eval<|.tmp t) w) (cr:Bq P rest=some ar) (hres:fn.results= #[]) {caps:List AVal}{v:AVal}{H H2:Hz} (hl:caps.length≤4094) {n:Nat} (hn:caps.length+(fn.ntmps-caps.length)=n) (ht:(Nat.blt t n&&Nat.blt t 4094)=true) (ht2:(Nat.blt t2 n&&Nat.blt t2 4094)=true)
 (h:ExM P W0 H.length ar ⟨.al ((t2,v)::(t,v)::Ej 0 caps),H,n⟩ λe s'=>(match e with|.exit _=>False|_=>True)∧s'.H=H2):Xy P W0 g caps v H H2:=by
 intro F bs w cap cv hh hcap hcv;subst hn;refine callsD_of_wpS hf hb λc₀ cs hu=>?_;apply wpS_seq;apply wpS_region;have hrg:List.range (#[o0,o1]:Array Oper).size=[0,1]:=rfl;rw[hrg];simp only[wpOpsS,List.getElem?_toArray,List.getElem?_cons_zero,List.getElem?_cons_succ];have hw:∀x:Array Value,Region.wanted o0 (yielded #[o0,o1] x)=true:=λx=>A6l;have hw1:∀x:Array Value,Region.wanted o1 (yielded #[o0,o1] x)=true:=λx=>by simp[Region.wanted,hgd1]
 rw[if_pos<|hw _,hrec];have hrc:recoverD (c₀::cs)=some (cv,{c₀ with mode:=.panicking [{v:=cv,recovered:=true}]}::cs):=by simp[recoverD,hu,pch]
 simp only[hrc];rw[if_pos<|hw1 _,hmv];have hrs:=G7 hh hcap hl fn.ntmps;have hrs':RS W0 F bs ⟨.al<|Ej 0 caps,H,caps.length+(fn.ntmps-caps.length)⟩ {tmps:=cap.toArray++Array.replicate (fn.ntmps-cap.toArray.size) undef,defers:=[]} w:=
  ⟨hrs.heap,hrs.size,λt u hu=>hrs.env t u (by
   rw[Ds caps 0 .leaf t Y];have hu:lk t (Ej 0 caps)=some u:=hu;rw[Je]at hu
   grind)⟩
 obtain⟨s1,hK1,hrs1,hH1⟩:=hrs'.put (dst:=o0.dst) (K:=λs'=>s'=⟨.al ((t,v)::Ej 0 caps),H,caps.length+(fn.ntmps-caps.length)⟩) hcv hh (Ext.refl _ _ _) (by rw[hd];exact⟨ht,rfl⟩);subst hK1;have hev:Rep F bs H w v ((({tmps:=cap.toArray++Array.replicate (fn.ntmps-cap.toArray.size) undef,defers:=[]}:Act).put o0.dst cv).eval<|.tmp t):=hrs1.env t v (by show lk t ((t,v)::Ej 0 caps)=some v;simp[lk]);obtain⟨s',hK,hrs2,hH⟩:=hrs1.put (dst:=o1.dst) (K:=λs'=>s'=⟨.al ((t2,v)::(t,v)::Ej 0 caps),H,caps.length+(fn.ntmps-caps.length)⟩) hev hh (Ext.refl _ _ _) (by rw[hd1];exact⟨ht2,rfl⟩);subst hK;show rest.wpS P _ _ _ _;refine wpS_of_wp<|h rest cr F bs _ w hrs2 bs H w Z (Ext.refl _ _ _) _ λe s' bs' a' w' hk hrs hext hdf=>?_;obtain⟨hne,rfl⟩:=hk;have hput:∀(a:Act) (dst:Option Tmp) (v:Value),(a.put dst v).defers=a.defers:=λa dst v=>Yv;have hdn:a'.defers=[]:=by grind
 have fin:∃u',({c₀ with mode:=.panicking [{v:=cv,recovered:=true}]}::cs:List Frame)={c₀ with mode:=u'}::cs∧∃r,(results fn a'.tmps).run P w'= .ok r w'∧(Ending.returned r= .returned (.tuple #[])∧u'= .panicking [{v:=cv,recovered:=true}]∧∃bs',Ad W0 F bs' s'.H w'∧Ext bs H w bs' s'.H w'):=⟨_,rfl,.tuple #[],by simp[results,hres],rfl,rfl,bs',hrs.heap,hext⟩;cases e with|normal=>exact⟨hdn,fin⟩|ret=>exact⟨hdn,fin⟩|exit id=>exact hne.elim
theorem A5.of_rec2 (hg:Gr P W0 G){f:FuncId}{fn:Func}{r0 r1 rest:Code}{a0 a1 ar:ACode}{id t:Nat}{g:FuncId}{ops:Array Oper}{o0 o1:Oper}{ao:AOper}(hf:P.funcs[f]?=some fn)(hb:fn.body=some (.seq r0<|.seq r1<|.seq (.region id ops false) rest))
 (hnm:fn.name≠ "runtime.NumGoroutine") (hgb:Ed P g) (c0:Bq P r0=some a0) (c1:Bq P r1=some a1) (cr:Bq P rest=some ar) (co:Be P ops o0=some ao)
 (hops:ops= #[o0,o1]) (h1g:o1.guard=none) (h1d:o1.dst=none) (h1c:∃c,o1.op= .defer c∧c.callee= .value (.tmp t)∧c.args= #[])
 {args:List AVal}{H:Hz}{v vo:AVal}{Ho:Hz} (hl:args.length≤4094) {n:Nat} (hn:args.length+(fn.ntmps-args.length)=n) {rl:List ResultVar} (hrl:fn.results.toList=rl)
 (h:ExM P W0 H.length a0 ⟨.al (Ej 0 args),H,n⟩ λe s0=>e= .normal∧ExM P W0 H.length a1 s0 λe s1=>e= .normal∧I6 P W0 G ao s1 λs2=>∃caps,s2.env.get t=some (.fn g [] caps)∧
  ExP P W0 s2.H.length ar s2 v λs3=>∃H2,Xy P W0 g caps v s3.H H2∧∃vs,Dx P ⟨s3.env,H2,s3.n⟩ rl=some vs∧L5 H.length (C9 vs) H2=(vo,Ho)):
 A5 P W0 f args H vo Ho:=by
 subst hn;subst hrl;exact A5.of_rec hg hf hb hnm hgb c0 c1 cr co hops h1g h1d h1c hl h
end
def only (j0:Nat)(l:List AOper):Bool:=Nat.blt j0 l.length&&(List.range l.length).all λj=>match l[j]? with
 |some a=>cond (Nat.beq j j0) (Nat.ble 2 a.op.kind) (Nat.beq a.op.kind 0)|none=>true
theorem Qj {Q:Nat→Prop}:∀{l acc new:List Nat},(∀x∈l,Q x)→(∀x∈acc,Q x)→(∀x∈new,Q x)→(∀x∈(Qa l acc new).1,Q x)∧∀x∈(Qa l acc new).2,Q x
 | [],acc,new,_,h2,h3=>⟨h2,h3⟩
 |y::r,acc,new,h1,h2,h3=>by
  have hy:=h1 y Ax;have hr:∀x∈r,Q x:=λx hx=>h1 x (by simp[hx]);simp only[Qa];cases A56 y acc with
  |true=>exact Qj hr h2 h3
  |false=>
   refine Qj hr (λx hx=>?_)<|λx hx=>?_;·grind
   ·grind
theorem S8 {Q:Nat→Prop}{p:SP}(hs:∀σ,Q σ→∀j∈p.steps σ,Q<|SP.nxt σ j):∀{f:Nat}{todo acc:List Nat},(∀x∈todo,Q x)→(∀x∈acc,Q x)→∀x∈Rr p f todo acc,Q x
 |0,_,_,_,h2=>h2|_+1,[],_,_,h2=>h2
 |f+1,σ::todo,acc,h1,h2=>by
  have hσ:=h1 σ Ax;have hn:∀x∈(p.steps σ).map (SP.nxt σ),Q x:=λx hx=>by grind
  have ha:=Qj (Q:=Q) hn h2 (new:=[]) (λx hx=>by simp at hx);simp only[Rr];cases he:Qa ((p.steps σ).map<|SP.nxt σ) acc []with
  |mk acc' new=>
   rw[he]at ha;refine S8 hs (λx hx=>?_) ha.1;rcases List.mem_append.1 hx with h|h;·grind
   ·grind
section
variable {P : Program} {W0 : World} {G : List (Nat × AVal)}
theorem Vv {masks:List Nat}{j:Nat}:∀(l:List Edge) (m:Nat),m<2^j→(∀e∈l,cond (Region.binds .any e) (Nat.blt e.on j) true=true)→(∀i,i<j→masks.getD i 0<2^i)→
 l.foldl (λm e=>cond (Region.binds .any e) (Nat.lor (Nat.lor m<|Nat.shiftLeft 1 e.on)<|masks.getD e.on 0) m) m<2^j
 | [],m,hm,_,_=>hm
 |e::l,m,hm,hl,hi=>by
  simp only[List.foldl_cons];refine Vv l _ ?_ (λx hx=>hl x (by simp[hx])) hi;have he:=hl e Ax;cases hb:Region.binds .any e with
  |false=>exact hm
  |true=>
   rw[hb,cond_true]at he;have hlt:e.on<j:=by simp_all
   rw[cond_true];refine Nat.or_lt_two_pow (Nat.or_lt_two_pow hm ?_) ?_;·simp_all[Nat.one_shiftLeft,Nat.pow_lt_pow_right]
   ·grind[Nat.lt_of_lt_of_le,Nat.pow_le_pow_right]
theorem mask_lt {ops:Array Oper}{p:SP}(hsp:J1 P ops p=true):∀j,j<ops.size→p.mask.getD j 0<2^j:=by intro j;induction j using Nat.strongRecOn with|_ j ih=>intro hj;have h0:=hsp;simp only[J1,bAt]at h0;have:=List.all_eq_true.1 h0.2 j<|List.mem_range.2 hj;rw[Array.getElem?_eq_getElem hj]at this;simp only[Tn,bAt]at this;rw[nBq this.1.1.2];unfold O0;exact Vv _ 0 (Nat.two_pow_pos j) (λe he=>List.all_eq_true.1 this.1.1.1 e he)<|λi hi=>ih i hi Y
theorem Om {o:AOper}{s:St}{K K':AVal→Hz→Prop}(h:Bl P W0 G o s K)(hk:∀v H',K v H'→K' v H'):Bl P W0 G o s K':=by
 have hr:∀{H:Hz}{r:Option ARes},Ia P W0 H r K→Ia P W0 H r K':=λ{H r} h=>by unfold Ia at h⊢;grind
 unfold Bl at h⊢;split at h<;>grind
theorem A0n {ops:Array Oper}{o:Oper}{a:AOper}(hc:Be P ops o=some a):Ar P o.op=some a.op:=by grind[Be]
theorem Nc {j0:Nat}:∀{n:Nat},j0<n→(List.range n).filter (λj=>j==j0)=[j0]
 |0,h=>I5
 |n+1,h=>by
  rw[List.range_succ,List.filter_append];by_cases he:j0=n;·grind[List.filter_eq_nil_iff]
  ·rw[Nc Y];grind
variable (P W0 G) in
def Gz :List AOper→St→(St→Prop)→Prop
 | [],s,K=>K s|o::r,s,K=>Bl P W0 G o s λv H'=>Eq o.dst s.n=true∧(Nat.ble 2 o.op.kind=false→H'=s.H)∧Gz r ⟨G3 o.dst v s.env,H',s.n⟩ K
theorem Rn {p:SP}{j0:Nat}(hfin:p.fin=SP.nxt 0 j0)(hs0:p.steps 0=[j0])(hs1:p.steps (SP.nxt 0 j0)=[])(hst:∀σ∈p.states,σ=0∨σ=SP.nxt 0 j0)(hne:SP.nxt 0 j0≠0):
 ∀{l:List AOper}{j:Nat}{s:St}{K:St→Prop}{M:HMap},(∀k a,l[k]?=some a→p.kind.getD (j+k) 0=a.op.kind)→(∀k a,l[k]?=some a→cond (Nat.beq (j+k) j0) (Nat.ble 2 a.op.kind) (Nat.beq a.op.kind 0)=true)→
  Gz P W0 G l s K→(j≤j0→j0<j+l.length→M=[(0,s.H)]→D5 P W0 G p l j 0 M [] s K)∧(j0<j→Em 0 M=true→Em (SP.nxt 0 j0) M=true→D5 P W0 G p l j (SP.nxt 0 j0) M [] s K)
 | [],j,s,K,M,_,_,h=>by refine⟨λh1 h2=>by grind,λ_ k0 k1=>⟨?_,h⟩⟩;rw[hfin,hs1,Nat.beq_refl];simp only[nEq,Bool.and_self,Bool.true_and];grind
 |o::r,j,s,K,M,hk,ho,h=>by
  have k0:=hk 0 o Z;have o0:=ho 0 o Z;rw[Nat.add_zero]at k0 o0;have hkr:∀k a,r[k]?=some a→p.kind.getD (j+1+k) 0=a.op.kind:=λk a ha=>by have:=hk (k+1) a (by grind);grind
  have hor:∀k a,r[k]?=some a→cond (Nat.beq (j+1+k) j0) (Nat.ble 2 a.op.kind) (Nat.beq a.op.kind 0)=true:=λk a ha=>by have:=ho (k+1) a (by grind);grind
  unfold Gz at h;obtain⟨v,H',h1,h2,h3,h4⟩:=Rz h;have heff:p.eff j=Nat.ble 2 o.op.kind:=by grind[SP.eff]
  refine⟨λc1 c2 c3=>?_,λc1 c2 c3=>?_⟩
  ·by_cases hj:j=j0
   ·subst hj;rw[Nat.beq_refl,cond_true]at o0;unfold D5;refine Om h1 λv' X hx=>?_;obtain⟨rfl,rfl⟩:=hx;refine⟨h2,?_⟩;rw[heff,o0,cond_true];refine⟨?_,O,?_⟩;·rw[hs0,c3];simp only[nEq,Nat.beq_refl,cond_true,Em,Bool.true_and];grind[Nat.eq_of_beq_eq_true]
    ·exact(Rn hfin hs0 hs1 hst hne hkr hor h4).2 Y (by grind[Jq]) (Jq.2<|.inl Z)
   ·rw[show Nat.beq j j0=false from by grind[Nat.eq_of_beq_eq_true],cond_false]at o0;have hz:=nBq o0;have hb2:Nat.ble 2 o.op.kind=false:=by rw[hz];rfl
    have hH:=h3 hb2;subst hH;unfold D5;refine Om h1 λv' X hx=>?_;obtain⟨rfl,rfl⟩:=hx;refine⟨h2,?_⟩;rw[heff,hb2,cond_false,k0,hz];refine⟨Z,O,?_⟩;exact(Rn hfin hs0 hs1 hst hne hkr hor h4).1 Y (by grind) c3
  ·have hj:j≠j0:=by omega
   rw[show Nat.beq j j0=false from by grind[Nat.eq_of_beq_eq_true],cond_false]at o0;have hz:=nBq o0;have hb2:Nat.ble 2 o.op.kind=false:=by rw[hz];rfl
   have hH:=h3 hb2;subst hH;unfold D5;refine Om h1 λv' X hx=>?_;obtain⟨rfl,rfl⟩:=hx;refine⟨h2,?_⟩;rw[heff,hb2,cond_false,k0,hz];refine⟨Z,O,?_⟩;exact(Rn hfin hs0 hs1 hst hne hkr hor h4).2 Y c2 c3
theorem nxt_bit {σ j:Nat}:tb (SP.nxt σ j) j=true:=by show((σ|||(1<<<j)).testBit j)=true;grind
theorem ExM.draw1 (hg:Gr P W0 G){m:Nat}{l:List AOper}{b:Bool}(j0:Nat)(hone:only j0 l=true){s:St}{K:Ai→St→Prop}(h:Gz P W0 G l s<|K .normal):ExM P W0 m (.draw l b) s K:=ExM.of λc hc=>by
 obtain⟨id,ops,rfl,hc1,hsp,_⟩:=Qk hc;obtain⟨hcl,hcg⟩:=Da hc1;have hsz:l.length=ops.size:=Y;simp only[only,bAt]at hone;have hj0:j0<l.length:=by simp_all
 have hon:∀k a,l[k]?=some a→_root_.cond (Nat.beq k j0) (Nat.ble 2 a.op.kind) (Nat.beq a.op.kind 0)=true:=λk a ha=>by grind
 have h0:=hsp;simp only[J1,bAt]at h0;have hn:(Ep P ops.toList).n=ops.size:=nBq h0.1.1.1.1;have hkind:∀k a,l[k]?=some a→(Ep P ops.toList).kind.getD k 0=a.op.kind:=λk a ha=>by
  have hk:k<ops.size:=by grind
  have ho:ops.toList[k]?=some ops[k]:=by simp[hk]
  obtain⟨a',ha',hca⟩:=hcg k _ ho;rw[ha]at ha';injection ha' with ha';subst ha';have:=List.all_eq_true.1 h0.2 k<|List.mem_range.2 hk;rw[Array.getElem?_eq_getElem hk]at this;simp only[Tn,bAt]at this;grind[Nat.eq_of_beq_eq_true,Do,A0n]
 have heff:∀j,j<ops.size→(Ep P ops.toList).eff j=true→j=j0:=λj hj he=>by have ha:l[j]?=some (l[j]'(Y)):=gGe _;unfold SP.eff at he;rw[hkind j _ ha]at he;have:=hon j _ ha;cases hb:Nat.beq j j0 with|true=>exact nBq hb|false=>rw[hb,cond_false]at this;rw[nBq this]at he;cases he
 have heff0:(Ep P ops.toList).eff j0=true:=by have ha:l[j0]?=some (l[j0]'hj0):=gGe _;have:=hon j0 _ ha;simp_all[SP.eff]
 have hbit:=nxt_bit (σ:=0) (j:=j0);have hne:SP.nxt 0 j0≠0:=λe=>by grind[tb]
 have hself:(Ep P ops.toList).msk j0 j0=false:=by grind[SP.msk,tb,Nat.testBit_lt_two_pow,mask_lt]
 have hstep:∀σ j,j∈(Ep P ops.toList).steps σ→j=j0∧tb σ j0=false:=λσ j hj=>by unfold SP.steps at hj;grind
 have hs1:(Ep P ops.toList).steps (SP.nxt 0 j0)=[]:=by rw[List.eq_nil_iff_forall_not_mem];grind
 have hmay:(Ep P ops.toList).mayB 0 j0=true:=(Xb (p:=Ep P ops.toList) (N:=ops.size) hn).2 (And.intro (λi hi he hm=>absurd hm (by grind)) (λi _ _ _=>by simp[tb]));have hs0:(Ep P ops.toList).steps 0=[j0]:=by grind[SP.steps,Ep,tb,List.filter_congr,Nc]
 have hst:∀σ∈(Ep P ops.toList).states,σ=0∨σ=SP.nxt 0 j0:=by refine S8 (Q:=λσ=>σ=0∨σ=SP.nxt 0 j0) (λσ hσ j hj=>?_) Ax Ax;have hj':j∈(Ep P ops.toList).steps σ:=hj;grind
 have hfin:(Ep P ops.toList).fin=SP.nxt 0 j0:=by
  have hin:SP.nxt 0 j0∈(Ep P ops.toList).states:=by grind[Iw]
  have h4:=List.all_eq_true.1 h0.1.2 _ hin;have hall:(Ep P ops.toList).allIn (SP.nxt 0 j0)=true:=by unfold SP.allIn;grind
  rw[hall,cond_true]at h4;grind[Nat.eq_of_beq_eq_true]
 refine Go.Abs.drawC hg.mixed hg.g hc1 hsp ?_;exact(Rn hfin hs0 hs1 hst hne (j:=0) (M:=[(0,s.H)]) (λk a ha=>by grind) (λk a ha=>by grind) h).1 (Nat.zero_le _) Y Z
variable {l : List (Nat × AVal)} {H H' : Hz} {n : Nat} {K : St → Prop} {r : List AOper}
theorem Ip {d:Nat}{op:AOp}{v:AVal}{side:List (Int×Int)}(h:aop G ⟨.al l,H,n⟩ op=some (.val v H side))(hd:(Nat.blt d n&&Nat.blt d 4094)=true)(hs:Ag side)(k:Gz P W0 G r ⟨.al ((d,v)::l),H,n⟩ K):Gz P W0 G (⟨some d,none,op⟩::r) ⟨.al l,H,n⟩ K:=by simp only[Gz,Bl,h];exact⟨hs,hd,λ_=>Z,k⟩
theorem Abu {d:Nat}{op:AOp}{f:Nat}{args:List AVal}{v:AVal}(h:aop G ⟨.al l,H,n⟩ op=some (.call f args))(hd:(Nat.blt d n&&Nat.blt d 4094)=true)(hk:Nat.ble 2 op.kind=true)(hc:A5 P W0 f args H v H')(k:Gz P W0 G r ⟨.al ((d,v)::l),H',n⟩ K):Gz P W0 G (⟨some d,none,op⟩::r) ⟨.al l,H,n⟩ K:=by simp only[Gz,Bl,h];exact⟨v,H',hc,hd,λe=>(by grind),k⟩
theorem wKv {d:Nat}{op:AOp}{v v0:AVal}{side:List (Int×Int)}(h:aop G ⟨.al l,H,n⟩ op=some (.val v0 H side))(hd:(Nat.blt d n&&Nat.blt d 4094)=true)(hs:Ag side)(hv:v0=v)(k:Gz P W0 G r ⟨.al ((d,v)::l),H,n⟩ K):Gz P W0 G (⟨some d,none,op⟩::r) ⟨.al l,H,n⟩ K:=by grind[Ip]
theorem wBk {d:Nat}{op:AOp}{b c:Bool}(h:aop G ⟨.al l,H,n⟩ op=some (.val (.bool b) H []))(hd:(Nat.blt d n&&Nat.blt d 4094)=true)(hb:b=c)(k:Gz P W0 G r ⟨.al ((d,.bool c)::l),H,n⟩ K):Gz P W0 G (⟨some d,none,op⟩::r) ⟨.al l,H,n⟩ K:=by subst hb;exact Ip h hd trivial k
theorem A9a (h:K ⟨.al l,H,n⟩):Gz P W0 G [] ⟨.al l,H,n⟩ K:=h
end
section
variable {P : Program} {W0 : World} {m : Nat} {c : ACode} {v : AVal} {K : St → Prop}
theorem ExP.fh {a:ACode}{s1 s2:St}(hf:Fh m s1 s2)(h:ExP P W0 m a s1 v K):ExP P W0 m a s2 v K:=λc hc F bs x w hs bs0 H0 w0 hm he Q hq=>by obtain⟨bs',h1,h2⟩:=hs.fh hf he hm;exact h c hc F bs' x w h1 bs0 H0 w0 hm h2 Q hq
theorem A0k.fh {s1 s2:St}(hf:Fh m s1 s2):∀{n:Nat},A0k P W0 m c v K n s1→A0k P W0 m c v K n s2
 |0,h=>h|_+1,h=>h.elim (λh=>.inl<|ExP.fh hf h) λh=>.inr<|ExM.fh hf h
theorem ExP.lpN (st:Nat→St)(n:Nat){s:St}(h0:Fh m (st 0) s)(h:∀i,i<n→ExM P W0 m c (st i) λe s'=>e= .normal∧Fh m (st<|i+1) s')(hl:ExP P W0 m c (st n) v K):ExP P W0 m (.loop c) s v K:=
 have key:∀k i,i+k=n→A0k P W0 m c v K (k+1) (st i):=λk=>by
  induction k with
  |zero=>
   intro i hi;obtain rfl:i=n:=by omega
   exact .inl hl
  |succ k ih=>intro i hi;exact .inr<|(h i Y).mono λe s' hk=>⟨hk.1,A0k.fh hk.2<|ih (i+1) Y⟩
 ExP.loop (n+1) (A0k.fh h0<|key n 0 Y)
end
end Go.Abs
namespace Go.Abs
open Go.Proofs Go.RowKit
abbrev cP (W:World)(f:FuncId)(x:List AVal)(H:Hz)(v:AVal)(H2:Hz):Prop:=A5 Tryz.prog W f x H v H2
abbrev hGr (W:World)(G:List<|Nat×AVal):Prop:=Gr Tryz.prog W G
end Go.Abs
namespace Go.Abs
open Go.Proofs Go.RowKit
set_option maxRecDepth 100000
noncomputable def cdF (f:Nat):AFn:=(Gw Tryz.prog f).getD ⟨.skip,[],0⟩
section
variable {W0 : World} (f n : Nat) {args : List AVal} {H H' : Hz} {v : AVal} {B : Prop}
theorem goM (k:B)(h:Wrp B→ExM Tryz.prog W0 H.length (cdF f).code ⟨.al<|Ej 0 args,H,n⟩ (Iy (cdF f).res H.length v H'):=by intro wk;(conv=>arg 4;reduce;try dsimp only[Int.ofNat_eq_natCast,Int.cast_ofNat_Int]);exact wk.x)(hf:Gw Tryz.prog f=some (cdF f):=by kernel_rfl)(hl:args.length≤4094:=by simp)(hn:args.length+((cdF f).n-args.length)=n:=by rfl):cP W0 f args H v H':=A5.of_fnM hf hl hn<|h ⟨k⟩
theorem goW (m:Nat)(k:B)(h:Wrp B→ExM Tryz.prog W0 m (cdF f).code ⟨.al<|Ej 0 args,H,n⟩ (Iy (cdF f).res m v H'):=by intro wk;(conv=>arg 4;reduce;try dsimp only[Int.ofNat_eq_natCast,Int.cast_ofNat_Int]);exact wk.x)(hf:Gw Tryz.prog f=some (cdF f):=by kernel_rfl)(hl:args.length≤4094:=by simp)(hn:args.length+((cdF f).n-args.length)=n:=by rfl)(hm:H.length=m:=by rfl):cP W0 f args H v H':=by subst hm;exact A5.of_fnM hf hl hn<|h ⟨k⟩
theorem goA (k:B)(h:Wrp B→ExA Tryz.prog W0 (cdF f).code ⟨.al<|Ej 0 args,H,n⟩ (Iy (cdF f).res H.length v H'):=by intro wk;(conv=>arg 3;reduce;try dsimp only[Int.ofNat_eq_natCast,Int.cast_ofNat_Int]);exact wk.x)(hf:Gw Tryz.prog f=some (cdF f):=by kernel_rfl)(hl:args.length≤4094:=by simp)(hn:args.length+((cdF f).n-args.length)=n:=by rfl):cP W0 f args H v H':=A5.of_fn hf hl hn<|h ⟨k⟩
theorem goE {Q:AVal→Prop}(k:B)(h:Wrp B→ExM Tryz.prog W0 0 (cdF f).code ⟨.al<|Ej 0 args,[],n⟩ λe s=>∃v,Q v∧Iy (cdF f).res 0 v [] e s:=by intro wk;(conv=>arg 4;reduce;try dsimp only[Int.ofNat_eq_natCast,Int.cast_ofNat_Int]);exact wk.x)(hf:Gw Tryz.prog f=some (cdF f):=by kernel_rfl)(hl:args.length≤4094:=by simp)(hn:args.length+((cdF f).n-args.length)=n:=by rfl):As Tryz.prog W0 f args Q:=As.of_fnM hf hl hn<|h ⟨k⟩
theorem goQ {Q:AVal→Hz→Prop}(k:B)(h:Wrp B→ExM Tryz.prog W0 H.length (cdF f).code ⟨.al<|Ej 0 args,H,n⟩ λe s=>∃v H',Q v H'∧Iy (cdF f).res H.length v H' e s:=by intro wk;(conv=>arg 4;reduce;try dsimp only[Int.ofNat_eq_natCast,Int.cast_ofNat_Int]);exact wk.x)(hf:Gw Tryz.prog f=some (cdF f):=by kernel_rfl)(hl:args.length≤4094:=by simp)(hn:args.length+((cdF f).n-args.length)=n:=by rfl):I8 Tryz.prog W0 f args H Q:=I8.of_fnM hf hl hn<|h ⟨k⟩
theorem goP (k:B)(h:Wrp B→ExP Tryz.prog W0 H.length (cdF f).code ⟨.al<|Ej 0 args,H,n⟩ v λs'=>s'.H=H':=by intro wk;(conv=>arg 4;reduce;try dsimp only[Int.ofNat_eq_natCast,Int.cast_ofNat_Int]);exact wk.x)(hf:Gw Tryz.prog f=some (cdF f):=by kernel_rfl)(hl:args.length≤4094:=by simp)(hn:args.length+((cdF f).n-args.length)=n:=by rfl):Og Tryz.prog W0 f args H v H':=Og.of_fn hf hl hn<|h ⟨k⟩
end
end Go.Abs
namespace Go.Abs
theorem A2l {α:Type}{f:Nat→α→Nat}{p:Nat→Prop}(hp:∀h c,p<|f h c)(hi:∀h g c,p h→p g→f h c=f g c→h=g):∀(b:List α) (h g:Nat),p h→p g→b.foldl f h=b.foldl f g→h=g
 | [],_,_,_,_,e=>e|c::b,h,g,hh,hg,e=>hi h g c hh hg<|A2l hp hi b (f h c) (f g c) (hp h c) (hp g c) e
theorem A5b {a b d p:Nat}(h:(a+d)%p=(b+d)%p):a%p=b%p:=by grind[Int.emod_add_cancel_right]
theorem A7g {h k p v q:Nat}(hh:h<p)(e:257*v=1+p*q)(hk:k=h*257):(k*v)%p=h:=by subst hk;rw[Nat.mul_assoc,e,Nat.mul_add,Nat.mul_one,Nat.mul_left_comm,Nat.add_mul_mod_self_left,Nat.mod_eq_of_lt hh]
theorem sum_gen {h g c p v q:Nat}(hh:h<p)(hg:g<p)(ev:257*v=1+p*q)(e:(h*257+c+1)%p=(g*257+c+1)%p):h=g:=by
 rw[Nat.add_assoc,Nat.add_assoc]at e;have e1:=A5b e;have h2:(h*257*v)%p=(g*257*v)%p:=by grind[Nat.mul_mod]
 rwa[A7g hh ev rfl,A7g hg ev rfl]at h2
theorem Ad2 {h g c:Nat}(hh:h<4294967291)(hg:g<4294967291)(e:(h*257+c+1)%4294967291=(g*257+c+1)%4294967291):h=g:=sum_gen (v:=3225403452) (q:=193) hh hg (by decide) e
def D1 (s:Bz):Nat:=s.foldl (λh b=>(h*257+b.toNat+1)%4294967291) 1
theorem Aaf {a b:Bz}{x y:UInt8}(h:x≠y):D1 (a++x::b)≠D1 (a++y::b):=by
 have hp:∀(h:Nat) (c:UInt8),(h*257+c.toNat+1)%4294967291<4294967291:=λh c=>by omega
 intro e;unfold D1 at e;rw[List.foldl_append,List.foldl_append,List.foldl_cons,List.foldl_cons]at e;have h1:=A2l (p:=λn=>n<4294967291) hp (λh g c hh hg e=>Ad2 hh hg e) b _ _ (hp _ _) (hp _ _) e;generalize a.foldl _ 1=m at h1;have hx:x.toNat<256:=x.toNat_lt;have hy:y.toNat<256:=y.toNat_lt;grind[UInt8.toNat_inj]
end Go.Abs
namespace Go.Abs
open Go.RowKit
set_option maxRecDepth 100000
variable {G : List (Nat × AVal)}
section
variable {α : Type} {f : α → AVal} {l : List α} {d : α} {s : St}
theorem Eg {x i:AOpd}{k n:Nat}(hx:ev G s x=some (.row k<|l.map f))(hi:ev G s i=some (.int .i64 ((n:Nat):Int)))(hk:Nat.ble 1 k=true)(hlt:n<l.length):aop G s (.idxSl k x i)=some (.val (.eptr (f<|l.getD n d) 0) s.H [(0,(n:Nat)),((n:Nat)+1,(l.length:Nat))]):=by
 have h1:(l.map f).getD n .nilIf=f (l.getD n d):=by grind
 simp only[aop,hx,hi,Int.toNat_natCast,h1,hk,Nat.beq_refl,Bool.and_self,cond_true,List.length_map]
theorem Hj {x:AOpd}{k:Nat}(hx:ev G s x=some (.row k<|l.map f)):aop G s (.len false x)=some (.val (.int .i64 ((l.length:Nat):Int)) s.H []):=by grind[aop,A8w]
end
theorem Jc {H:Hz}{n id off:Nat}(h:id<n):FzV H n (.ptr id off) (.ptr id off):=.inl ⟨1,Aad⟩
theorem fvHx {H:Hz}{n k id off len:Nat}{c:Option Nat}(h:id<n):FzV H n (.hsl k id off len c) (.hsl k id off len c):=.inl ⟨1,Aad⟩
structure PCl where
 r:Nat
 c:Nat
 s:Bz
structure PSh where
 nm:Bz
 cs:List PCl
def pc0 :PCl:=⟨0,0,[]⟩
def ps0 :PSh:=⟨[],[]⟩
def ahd (a b:PCl):Prop:=a.r<b.r∨a.r=b.r∧a.c<b.c
def Cf (r c:Nat):List PCl→Nat
 | []=>0|x::l=>if x.r<r∨x.r=r∧x.c<c then Cf r c l+1 else 0
def L1 (l:List PCl)(r c:Nat)(s:Bz):List PCl:=l.take (Cf r c l)++⟨r,c,s⟩::l.drop (if(∃x,l[Cf r c l]?=some x∧x.r=r∧x.c=c)then Cf r c l+1 else Cf r c l)
theorem Vg (r c:Nat):∀l,Cf r c l≤l.length
 | []=>Nat.le_refl _
 |x::l=>by
  simp only[Cf];split;·have:=Vg r c l;simp;omega
  omega
theorem A0u (r c:Nat):∀(l:List PCl) (i:Nat) (x:PCl),i<Cf r c l→l[i]?=some x→x.r<r∨x.r=r∧x.c<c
 | [],_,_,h,_=>by grind
 |y::l,i,x,h,hx=>by
  simp only[Cf]at h;split at h;·rename_i hy;cases i with|zero=>simp at hx;subst hx;exact hy|succ i=>exact A0u r c l i x Y (by grind)
  ·omega
theorem A0m (r c:Nat):∀(l:List PCl) (x:PCl),l[Cf r c l]?=some x→¬(x.r<r∨x.r=r∧x.c<c)
 | [],x,h=>Qz
 |y::l,x,h=>by
  simp only[Cf]at h;split at h;·exact A0m r c l x (by grind)
  grind
theorem Aab (l:List PCl)(r c:Nat)(s:Bz):(L1 l r c s).length≤l.length+1:=by have:=Vg r c l;unfold L1;split<;>simp<;>omega
theorem Acb {p:PCl→Prop}{l:List PCl}{r c:Nat}{s:Bz}(h:∀x∈l,p x)(hn:p ⟨r,c,s⟩):∀x∈L1 l r c s,p x:=by grind[L1]
theorem putC_pw {l:List PCl}{r c:Nat}{s:Bz}(h:l.Pairwise ahd):(L1 l r c s).Pairwise ahd:=by
 unfold L1;rw[List.pairwise_append,List.pairwise_cons];have hd:∀k x,x∈l.drop k→∃i,k≤i∧l[i]?=some x:=λk x hx=>by grind[List.mem_iff_getElem?]
 have ht:∀k x,x∈l.take k→∃i,i<k∧l[i]?=some x:=λk x hx=>by grind[List.mem_iff_getElem?]
 have hp:∀(i j:Nat) (x y:PCl),i<j→l[i]?=some x→l[j]?=some y→ahd x y:=λi j x y hij hx hy=>by grind[List.pairwise_iff_getElem]
 have hge:∀(i:Nat) (y:PCl),Cf r c l≤i→l[i]?=some y→(i=Cf r c l→¬(y.r=r∧y.c=c))→ahd ⟨r,c,s⟩ y:=λi y hi hy hne=>by have hl:=(List.getElem?_eq_some_iff.1 hy).1;have h0:l[Cf r c l]?=some (l[Cf r c l]'(Y)):=gGe Y;have h1:=A0m r c l _ h0;grind[ahd]
 refine⟨h.sublist<|List.take_sublist _ _,⟨λy hy=>?_,h.sublist<|List.drop_sublist _ _⟩,λx hx y hy=>?_⟩;·split at hy;all_goals grind
 ·obtain⟨i,h1,h2⟩:=ht _ _ hx;have h3:=A0u r c l i x h1 h2;rcases List.mem_cons.1 hy with rfl|hy;·exact h3
  ·have:∃j,Cf r c l≤j∧l[j]?=some y:=by
    split at hy;·obtain⟨j,q1,q2⟩:=hd _ _ hy;grind
    simp_all
   grind
def Eb (l:List PSh):Nat:=(l.map λs=>s.cs.length).sum
structure A88 (p:PCl→Prop)(nms:List Bz)(shs:List PSh):Prop where
 nm:shs.map (·.nm)=nms
 pw:∀s∈shs,s.cs.Pairwise ahd
 ok:∀s∈shs,∀x∈s.cs,p x
theorem A88.len {p:PCl→Prop}{nms:List Bz}{shs:List PSh}(h:A88 p nms shs):shs.length=nms.length:=by rw[←h.nm,List.length_map]
def putS (shs:List PSh)(k r c:Nat)(s:Bz):List PSh:=shs.set k ⟨(shs.getD k ps0).nm,L1 (shs.getD k ps0).cs r c s⟩
theorem set_get {α:Type}{d:α}:∀{l:List α}{k:Nat},k<l.length→l.set k (l.getD k d)=l
 | [],_,h=>Qz|a::l,0,_=>Ax|a::l,k+1,h=>by simp_all
theorem Hm {α:Type}{d:α}{l:List α}{k:Nat}(h:k<l.length):l.getD k d∈l:=by grind
theorem A88.put {p:PCl→Prop}{nms:List Bz}{shs:List PSh}(h:A88 p nms shs){k r c:Nat}{s:Bz}(hk:k<shs.length)(hn:p ⟨r,c,s⟩):A88 p nms (putS shs k r c s):=by
 have hm:=Hm (d:=ps0) hk;refine⟨?_,λx hx=>?_,λx hx=>?_⟩;·grind[putS,List.map_set,nm,set_get]
 ·rcases List.mem_or_eq_of_mem_set hx with hx|rfl;·exact h.pw x hx
  ·exact putC_pw<|h.pw _ hm
 ·rcases List.mem_or_eq_of_mem_set hx with hx|rfl;·exact h.ok x hx
  ·exact Acb (h.ok _ hm) hn
theorem Y7 :∀{shs:List PSh}{k:Nat}{x:PSh},k<shs.length→x.cs.length≤(shs.getD k ps0).cs.length+1→Eb (shs.set k x)≤Eb shs+1
 | [],_,_,h,_=>Qz|a::l,0,x,_,h=>by grind[Eb]|a::l,k+1,x,hk,h=>by have:=Y7 (shs:=l) (k:=k) (x:=x) (by grind) (by grind);grind[Eb]
theorem A8l {shs:List PSh}{k r c:Nat}{s:Bz}(hk:k<shs.length):Eb (putS shs k r c s)≤Eb shs+1:=Y7 hk<|Aab _ _ _ _
def pcV (c:PCl):AVal:=.agg [.int .i64 ((c.r:Nat):Int),.int .i64 ((c.c:Nat):Int),.str c.s]
def psV (s:PSh):AVal:=.agg [.str s.nm,.row 3<|s.cs.map pcV]
theorem Cc {n:Nat}:∀(l:List PCl),Ab n (l.map pcV)=true
 | []=>rfl|_::l=>by simp only[List.map_cons,Ab,pcV,blw,cond_true];exact Cc l
theorem Br {n:Nat}:∀(l:List PSh),Ab n (l.map psV)=true
 | []=>rfl|_::l=>by simp only[List.map_cons,Ab,psV,blw,cond_true,Cc];exact Br l
end Go.Abs
namespace Go.Abs
open Go.RowKit Go.Proofs
variable {W0 : World} {F : Nat → Prop} {bs : List Nat} {H : Hz} {w : World}
structure Lw (W0:World):Prop where
 maxlen:∃m,W0.cell? ⟨2,0,none⟩=some (.int .i64 m)
 tabs:Lib.Utf8Tabs 0 1 W0
 synt:∃ev,W0.cell? ⟨7,0,none⟩=some ev∧(ev= .nilIface∨∃te pe,ev= .iface te pe)
 range:∃ev,W0.cell? ⟨8,0,none⟩=some ev∧(ev= .nilIface∨∃te pe,ev= .iface te pe)
theorem K2 {v:Value}{s:Bz}(h:Rep F bs H w (.str s) v):v= .string ⟨s.toArray⟩:=by grind[Rep]
theorem Qw (s:Bz):Rep F bs H w (.str s) (.string ⟨s.toArray⟩):=Yy
theorem A4a (k:IntKind)(n:Int):Rep F bs H w (.int k n) (.int k n):=Yy
theorem A08 (b:Bool):Rep F bs H w (.bool b) (.bool b):=Yy
theorem A6d {x:AVal}{l:List Value}(h:Aa F bs H w [x] l):∃a,l=[a]∧Rep F bs H w x a:=by grind[Aa]
theorem Ou {x y:AVal}{l:List Value}(h:Aa F bs H w [x,y] l):∃a b,l=[a,b]∧Rep F bs H w x a∧Rep F bs H w y b:=by grind[Aa]
theorem P9 (s:Bz):(ByteArray.mk s.toArray).size=s.length:=A4d
theorem bdata (s:Bz):(ByteArray.mk s.toArray).data.toList=s:=Ax
theorem lMap (hw:Lw W0){g:Nat}{caps caps':List AVal}{f:Int→Int}{s:Bz}(hg:A8o Tryz.prog g=true)(he:Xd H caps=some caps')(hf:∀(W:World) (x:Nat),x≤1114111→A5 Tryz.prog W g (.int .i32 x::caps') [] (.int .i32<|f x) [])
 (hr:∀x:Nat,x≤1114111→-2147483648≤f x∧f x≤2147483647) (hs:s.length<35184372088832):cP W0 95 [.fn g [] caps,.str s] H (.str<|Lib.mapD f s) H:=by
 refine A5.of_below Am λF bs w cargs hh hra=>?_;obtain⟨a,b,rfl,h1,h2⟩:=Ou hra;obtain rfl:=K2 h2;simp only[Rep,Aa]at h1;obtain⟨fs,cs,rfl,rfl,hl⟩:=h1;have hm:=A39 hh hl he hf;refine(Tryz.strings_Map_grows g cs.toArray (A1o hg) f ⟨s.toArray⟩ w A3k hm hr<|A5x hh hw.tabs).mono ?_;simp_all[Qw]
theorem lIndex (hw:Lw W0){s t:Bz}(hs:s.length<4294967281):cP W0 276 [.str s,.str t] H (.int .i64<|Lib.index s t) H:=by refine A5.of_below Am λF bs w cargs hh hra=>?_;obtain⟨a,b,rfl,h1,h2⟩:=Ou hra;obtain rfl:=K2 h1;obtain rfl:=K2 h2;obtain⟨m,hm⟩:=hw.maxlen;refine(Tryz.strings_Index ⟨s.toArray⟩ ⟨t.toArray⟩ m w A3k<|Vh hh hm).mono ?_;simp_all[A4a,Below.refl]
theorem To (hw:Lw W0){s t:Bz}(hs:s.length<4294967281):cP W0 231 [.str s,.str t] H (.bool<|Lib.contains s t) H:=by refine A5.of_below Am λF bs w cargs hh hra=>?_;obtain⟨a,b,rfl,h1,h2⟩:=Ou hra;obtain rfl:=K2 h1;obtain rfl:=K2 h2;obtain⟨m,hm⟩:=hw.maxlen;refine(Tryz.strings_Contains ⟨s.toArray⟩ ⟨t.toArray⟩ m w A3k<|Vh hh hm).mono ?_;simp_all[A08,Below.refl]
theorem lCut (hw:Lw W0){s t:Bz}(hs:s.length<4294967281):cP W0 151 [.str s,.str t] H (.tup [.str (Lib.cut s t).1,.str (Lib.cut s t).2.1,.bool (Lib.cut s t).2.2]) H:=by refine A5.of_below Am λF bs w cargs hh hra=>?_;obtain⟨a,b,rfl,h1,h2⟩:=Ou hra;obtain rfl:=K2 h1;obtain rfl:=K2 h2;obtain⟨m,hm⟩:=hw.maxlen;refine(Tryz.strings_Cut ⟨s.toArray⟩ ⟨t.toArray⟩ m w A3k<|Vh hh hm).mono ?_;simp_all[Tz,Rep,Aa]
theorem lCount1 {s:Bz}(c:UInt8):cP W0 314 [.str s,.str [c]] H (.int .i64<|Lib.countByte s c) H:=by refine A5.of_below Am λF bs w cargs hh hra=>?_;obtain⟨a,b,rfl,h1,h2⟩:=Ou hra;obtain rfl:=K2 h1;obtain rfl:=K2 h2;refine(Tryz.strings_Count_one ⟨s.toArray⟩ c w).mono ?_;simp_all[A4a,Below.refl]
theorem lLast {s:Bz}(c:UInt8)(hs:s.length<4611686018427387904):cP W0 228 [.str s,.int .u8 (c.toNat:Nat)] H (.int .i64<|Rt s c) H:=by refine A5.of_below Am λF bs w cargs hh hra=>?_;obtain⟨a,b,rfl,h1,h2⟩:=Ou hra;obtain rfl:=K2 h1;simp only[Rep]at h2;subst h2;refine(Tryz.strings_LastIndexByte ⟨s.toArray⟩ c.toNat A3k w).mono ?_;rintro e w' ⟨rfl,rfl⟩;refine⟨_,Z,?_,Below.refl _ _⟩;grind[Lib.lastIndexByte,P9,Lib.lastIdx_spec,W8,UInt8.toNat_inj,A4a]
theorem lItoa {n:Nat}(hn:n<100):cP W0 168 [.int .i64 n] H (.str<|Lib.decDigits n) H:=by refine A5.of_below Am λF bs w cargs hh hra=>?_;obtain⟨a,rfl,h1⟩:=A6d hra;simp only[Rep]at h1;subst h1;refine(Tryz.strconv_Itoa_small n hn w).mono ?_;grind[Qw,Below.refl]
theorem A3r (w:World)(e:TypeId)(s:ByteArray):Below w.heap.size w (Lib.bytesWorld w e s):=by unfold Lib.bytesWorld;exact Lib.below_freeze (((Below.refl w.heap.size w).drew).alloc (Nat.le_refl _) _) (p:=⟨w.heap.size,_,none⟩) (Nat.le_refl _) _
theorem lAtoi {s:Bz}{n:Int}(hs:s.length≤9223372036854775806)(h:Lib.atoiAll s= .ok n):cP W0 167 [.str s] H (.tup [.int .i64 n,.nilIf]) H:=by refine A5.of_below Am λF bs w cargs hh hra=>?_;obtain⟨a,rfl,h1⟩:=A6d hra;obtain rfl:=K2 h1;refine(Tryz.strconv_Atoi_ok ⟨s.toArray⟩ A3k n Y w).mono ?_;grind[Rep,Aa,Below.refl,A3r]
def errV :AVal:=.iface 319<|.eptr (.str [65,116,111,105]) 0
theorem errRep (hh:Ad W0 F bs H w){w':World}{N:Nat}{s:ByteArray}{ev:Value}(hN:w.heap.size≤N)(h:w'.heap[N]?=some (.cells #[.string ⟨#[65,116,111,105]⟩,.string s,ev] 338 (0,0))):
 Rep F bs H w' errV (.iface 319<|.pointer<|some ⟨N,0,none⟩):=by
 have hlt:N<w'.heap.size:=(Array.getElem?_eq_some_iff.1 h).1;simp only[errV,Rep];refine⟨_,Z,N,0,.string ⟨#[65,116,111,105]⟩,Z,Z,⟨λhm=>?_,λhF=>?_⟩,hlt,λj x hx=>?_⟩;·have:=(hh.low N hm).2;omega
 ·have:=(hh.forb N hF).2.1;omega
 grind[Value.cells,World.cell?]
theorem atoiNil {e:Lib.NumEnd Int}(h1:∀n,e=.ok n→False)(h2:e=.range→False):e=Lib.atoiAll []:=by cases e<;>first|rfl|exact(h1 _ rfl).elim|exact(h2 rfl).elim
theorem Ad6 (hw:Lw W0){s:Bz}(hs:s.length≤281474976710656)(h:Lib.atoiAll s=Lib.atoiAll []):cP W0 167 [.str s] H (.tup [.int .i64 0,errV]) H:=by refine A5.of_below Am λF bs w cargs hh hra=>?_;obtain⟨a,rfl,h1⟩:=A6d hra;obtain rfl:=K2 h1;obtain⟨ev,hev,hev2⟩:=hw.synt;refine(Tryz.strconv_Atoi_syntax ⟨s.toArray⟩ A3k h ev w (Vh hh hev) hev2).mono ?_;grind[errRep,Rep,Aa]
theorem Acz (hw:Lw W0){s:Bz}(hs:s.length≤9223372036854775807):cP W0 93 [.str s] H (.bool<|Lib.validD s) H:=by refine A5.of_below Am λF bs w cargs hh hra=>?_;obtain⟨a,rfl,h1⟩:=A6d hra;obtain rfl:=K2 h1;refine(Tryz.utf8_ValidString ⟨s.toArray⟩ w A3k<|A5x hh hw.tabs).mono ?_;simp_all[A08]
theorem lJoin {y:AVal}{ys:List AVal}{m:Nat}{l:List Bz}{sep:Bz}(hy:D6 1 H y=some (ys,m))(hl:K1 ys=some l)(h1:l.length≤140737488355328)(h2:(Lib.join l sep).length≤140737488355328):cP W0 364 [y,.str sep] H (.str<|Lib.join l sep) H:=by
 refine A5.of_below Am λF bs w cargs hh hra=>?_;obtain⟨a,b,rfl,k1,k2⟩:=Ou hra;obtain rfl:=K2 k2;obtain⟨ad,c,us,rfl,q1,q2,q3,q4⟩:=Tt hh k1 hy;have hus:=Zg hl q1;have hlen:l.length=m:=by grind
 cases ad with
 |none=>have hm:=q3 Z;subst hm;have:l=[]:=List.eq_nil_of_length_eq_zero hlen;subst this;refine(Tryz.strings_Join_none none c ⟨sep.toArray⟩ w).mono ?_;rintro e w' ⟨rfl,rfl⟩;exact⟨_,Z,Qw _,Below.refl _ _⟩
 |some ad=>
  by_cases hm:m=0;·subst hm;have:l=[]:=List.eq_nil_of_length_eq_zero hlen;subst this;refine(Tryz.strings_Join_none (some ad) c ⟨sep.toArray⟩ w).mono ?_;rintro e w' ⟨rfl,rfl⟩;exact⟨_,Z,Qw _,Below.refl _ _⟩
  ·obtain⟨hsp,hcap⟩:=A5j hh k1 hy hm;obtain⟨ab,ao,asp⟩:=ad;simp only at hsp;subst hsp;subst hlen;have hcell:∀(j:Nat) (x:ByteArray),(l.map λs=>ByteArray.mk s.toArray)[j]?=some x→w.cell? ⟨ab,ao+j,none⟩=some (.string x):=λj x hx=>by
    rw[List.getElem?_map]at hx;cases hj:l[j]? with
    |none=>rw[hj]at hx;cases hx
    |some s=>rw[hj]at hx;simp only[Option.map_some,iS]at hx;subst hx;have:=q4 ⟨ab,ao,none⟩ Z j (.string ⟨s.toArray⟩) (by grind);rwa[Addr.add_at]at this
   have hb:ab<w.heap.size:=by cases l with|nil=>exact absurd rfl hm|cons s r=>exact World.block_lt_of_cell? w ⟨ab,ao+0,none⟩<|hcell 0 _ rfl
   have hmap:(l.map λs=>ByteArray.mk s.toArray).map (λx=>x.data.toList)=l:=by simp_all[List.map_congr_left]
   have:=Tryz.strings_Join ab ao c (l.map λs=>ByteArray.mk s.toArray) ⟨sep.toArray⟩ w hcell hb (by grind) (by grind) (by grind);rw[hmap,bdata,List.length_map]at this;refine this.mono ?_;grind[Qw]
theorem F3 {s t:Bz}:cP W0 287 [.str s,.str t] H (.bool<|Lib.hasPrefix s t) H:=by refine A5.of_below Am λF bs w cargs hh hra=>?_;obtain⟨a,b,rfl,h1,h2⟩:=Ou hra;obtain rfl:=K2 h1;obtain rfl:=K2 h2;refine(Tryz.strings_HasPrefix ⟨s.toArray⟩ ⟨t.toArray⟩ w).mono ?_;simp_all[A08,Below.refl]
theorem Ib {s t:Bz}:cP W0 97 [.str s,.str t] H (.tup [.str<|Lib.trimPrefix s t,.bool<|Lib.hasPrefix s t]) H:=by refine A5.of_below Am λF bs w cargs hh hra=>?_;obtain⟨a,b,rfl,h1,h2⟩:=Ou hra;obtain rfl:=K2 h1;obtain rfl:=K2 h2;refine(Tryz.strings_CutPrefix ⟨s.toArray⟩ ⟨t.toArray⟩ w).mono ?_;simp_all[Below.refl,Rep,Aa]
end Go.Abs
namespace Go.Abs
open Go.Proofs Go.RowKit
set_option maxRecDepth 100000
variable {W0 : World} {G : List (Nat × AVal)}
def G9 (r:Int):Bool:=decide (48≤r)&&decide (r≤57)
def letterL (r:Int):Bool:=(decide (65≤r)&&decide (r≤90))||(decide (97≤r)&&decide (r≤122))
def Hn (r:Int):Bool:=G9 r||letterL r||decide (r=95)||decide (r=46)||decide (r=36)
def Us (r:Int):Bool:=G9 r||letterL r||decide (r=36)
def rdr (s:Bz)(at':Nat):HObj:=.cells 266 [.str s,.int .i64 at'] false
def H6 (k:Int)(s:Bz)(at':Nat):AVal:=.agg [.int .i64 k,.str s,.int .i64 at']
theorem Ab6 (hg:hGr W0 G)(r:Int)(H:Hz):cP W0 260 [.int .i32 r] H (.bool<|G9 r) H:=by
 refine goA 260 9 ?_;refine sA<|lV Z<|ln<|sA<|lV Z ?_;refine lB Z Z O (λh1=>?_)<|λh1=>?_
 ·refine lV Z<|lGY Z<|A9 Z Z O<|lGY Z<|?_;refine lB Z Z O (λh2=>?_)<|λh2=>?_;·refine lV Z<|lV Z<|ln ?_;exact ExA.ret (A6 O Z (by grind[C9,G9]) Z)
  ·refine lV Z<|lV Z<|ln ?_;exact ExA.ret<|A6 O Z (by grind[C9,G9]) Z
 ·refine lV Z<|lGN Z Z<|lGN Z Z<|lV Z<|lV Z<|ln ?_;exact ExA.ret<|A6 O Z (by grind[C9,G9]) Z
theorem c310 (hg:hGr W0 G)(r:Int)(H:Hz):cP W0 298 [.int .i32 r] H (.bool<|letterL r) H:=by
 refine goA 298 17 ?_;refine sA<|lV Z<|ln<|sA<|lV Z ?_;refine lB Z Z O (λh1=>?_)<|λh1=>?_
 ·refine lV Z<|lGY Z<|A9 Z Z O<|lGY Z<|?_;refine lB Z Z O (λh2=>?_)<|λh2=>?_;·refine lV Z<|lV Z<|lGN Z Z<|lGN Z Z<|lGN Z Z<|lGT Z Z<|lGT Z Z<|lGN Z Z<|lV Z<|lV Z<|ln ?_;exact ExA.ret (A6 O Z (by grind[C9,letterL]) Z)
  ·refine lV Z<|lV Z<|lGY Z<|A9 Z Z O<|lGY Z<|?_;refine lB Z Z O (λh3=>?_) (λh3=>?_)
   ·refine lGY Z<|A9 Z Z O<|lGY Z<|A9 Z Z O<|lGY Z<|?_;refine lB Z Z O (λh4=>?_)<|λh4=>?_;·refine lGY Z<|A9 Z Z O<|A9 Z Z O<|A9 Z Z O<|Cm<|?_;exact ExA.ret (A6 O Z (by grind[C9,letterL]) Z)
    ·refine lGY Z<|A9 Z Z O<|A9 Z Z O<|A9 Z Z O<|Cm<|?_;exact ExA.ret<|A6 O Z (by grind[C9,letterL]) Z
   ·refine lGY Z<|A9 Z Z O<|lGN Z Z<|lGN Z Z<|lGY Z<|A9 Z Z O<|A9 Z Z O<|A9 Z Z O<|Cm<|?_;exact ExA.ret<|A6 O Z (by grind[C9,letterL]) Z
 ·refine lV Z<|lGN Z Z<|lGN Z Z<|lV Z<|lV Z<|lGY Z<|A9 Z Z O<|lGY Z<|?_;refine lB Z Z O (λh5=>?_)<|λh5=>?_;·grind
  ·refine lGY Z<|A9 Z Z O<|lGN Z Z<|lGN Z Z<|lGY Z<|A9 Z Z O<|A9 Z Z O<|A9 Z Z O<|Cm<|?_;exact ExA.ret<|A6 O Z (by grind[C9,letterL]) Z
theorem c211 (hg:hGr W0 G)(r:Int)(H:Hz):cP W0 265 [.int .i32 r] H (.bool<|Hn r) H:=by
 refine goA 265 21 ?_;refine sA<|lV Z<|ln<|sA<|lV Z ?_;refine lCB Z Z (Ab6 hg _ _) (λh1=>?_)<|λh1=>?_;·refine lV Z<|lGN Z Z<|lGN Z Z<|lV Z<|lV Z<|lGN Z Z<|lGN Z Z<|lV Z<|lV Z<|lGN Z Z<|lGN Z Z<|lV Z<|lV Z<|lGN Z Z<|lGN Z Z<|lV Z<|lV Z<|ln ?_;exact ExA.ret<|A6 O Z (by grind[C9,Hn]) Z
 ·refine lV Z<|lGY Z<|A9 Z Z O<|lGY Z<|?_;refine lCB Z Z (c310 hg _ _) (λh2=>?_)<|λh2=>?_;·refine lV Z<|lV Z<|lGN Z Z<|lGN Z Z<|lV Z<|lV Z<|lGN Z Z<|lGN Z Z<|lV Z<|lV Z<|lGN Z Z<|lGN Z Z<|lV Z<|lV Z<|ln ?_;exact ExA.ret (A6 O Z (by grind[C9,Hn]) Z)
  ·refine lV Z<|lV Z<|lGY Z<|A9 Z Z O<|lGY Z<|?_;refine lB Z Z O (λh3=>?_)<|λh3=>?_;·refine lV Z<|lV Z<|lGN Z Z<|lGN Z Z<|lV Z<|lV Z<|lGN Z Z<|lGN Z Z<|lV Z<|lV Z<|ln ?_;exact ExA.ret (A6 O Z (by grind[C9,Hn]) Z)
   ·refine lV Z<|lV Z<|lGY Z<|A9 Z Z O<|lGY Z<|?_;refine lB Z Z O (λh4=>?_)<|λh4=>?_;·refine lV Z<|lV Z<|lGN Z Z<|lGN Z Z<|lV Z<|lV Z<|ln ?_;exact ExA.ret (A6 O Z (by grind[C9,Hn]) Z)
    ·refine lV Z<|lV Z<|lGY Z<|A9 Z Z O<|lGY Z<|?_;refine lB Z Z O (λh5=>?_)<|λh5=>?_;·refine lV Z<|lV Z<|ln ?_;exact ExA.ret (A6 O Z (by grind[C9,Hn]) Z)
     ·refine lV Z<|lV Z<|ln ?_;exact ExA.ret<|A6 O Z (by grind[C9,Hn]) Z
theorem c363 (hg:hGr W0 G)(r:Int)(H:Hz):cP W0 326 [.int .i32 r] H (.bool<|Us r) H:=by
 refine goA 326 13 ?_;refine sA<|lV Z<|ln<|sA<|lV Z ?_;refine lCB Z Z (Ab6 hg _ _) (λh1=>?_)<|λh1=>?_;·refine lV Z<|lGN Z Z<|lGN Z Z<|lV Z<|lV Z<|lGN Z Z<|lGN Z Z<|lV Z<|lV Z<|ln ?_;exact ExA.ret<|A6 O Z (by grind[C9,Us]) Z
 ·refine lV Z<|lGY Z<|A9 Z Z O<|lGY Z<|?_;refine lCB Z Z (c310 hg _ _) (λh2=>?_)<|λh2=>?_;·refine lV Z<|lV Z<|lGN Z Z<|lGN Z Z<|lV Z<|lV Z<|ln ?_;exact ExA.ret (A6 O Z (by grind[C9,Us]) Z)
  ·refine lV Z<|lV Z<|lGY Z<|A9 Z Z O<|lGY Z<|?_;refine lB Z Z O (λh3=>?_)<|λh3=>?_;·refine lV Z<|lV Z<|ln ?_;exact ExA.ret (A6 O Z (by grind[C9,Us]) Z)
   ·refine lV Z<|lV Z<|ln ?_;exact ExA.ret<|A6 O Z (by grind[C9,Us]) Z
theorem c301p (hg:hGr W0 G)(s:Bz)(at':Nat)(h:at'≤s.length)(_:s.length≤9223372036854775807):cP W0 288 [.ptr 0 0] [rdr s at'] (.str<|s.drop at') [rdr s at']:=by refine goA 288 12 ?_;refine sA<|lV Z<|ln<|sa ?_;refine ExA.draw hg ?_;refine qV Z<|qV Z<|qV Z<|qV Z<|qV Z<|qV Z<|qV Z<|qV Z<|Ak Z Z (by simp_all[B3,Ag])<|qV Z<|Dl<|?_;exact ExA.ret<|A6 O Z Z Z
theorem c301 (hg:hGr W0 G){H:Hz}{id:Nat}{s:Bz}{at':Nat}(hi:H[id]?=some (rdr s at'))(h:at'≤s.length)(h2:s.length≤9223372036854775807):cP W0 288 [.ptr id 0] H (.str<|s.drop at') H:=A5.at1 (c301p hg s at' h h2) hi Z Z Z Z Z Z<|S4 hi
theorem c302p (hg:hGr W0 G)(s:Bz)(at' n:Nat)(k:Int)(t:Bz)(h:at'+n≤9223372036854775807)(hn:0<n):cP W0 289 [.ptr 0 0,.int .i64 k,.str t,.int .i64 n] [rdr s at'] (.tup [H6 k t at',.bool true]) [rdr s<|at'+n]:=by
 refine goA 289 29 ?_;refine sA<|lV (v:=.ptr 1 0) Z<|lV Z<|ln<|sA<|lV Z<|lV Z<|lV Z<|lV Z<|lV Z<|lV Z<|lV Z<|lV (v:=.ptr 2 0) Z<|Eu Z<|ln<|sA<|lV Z<|lV Z<|lV Z<|lV Z<|lV Z<|lAddN Z Z Z Y<|A9 Z Z O<|A9 Z Z O<|Eu Z<|Cm<|ExA.seq<|ExA.ops hg<|A9 Z Z O<|A9 Z Z O<|?_;refine lB Z Z O (λh1=>?_)<|λh1=>?_;·refine Eu Z<|A9 Z Z O<|Cm<|?_;exact ExA.ret<|A4 O Z Z 100 Z Z
 grind
theorem A14 (hg:hGr W0 G){H H':Hz}{id:Nat}{s:Bz}{at' n:Nat}(k:Int)(t:Bz)(hi:H[id]?=some (rdr s at'))(h:at'+n≤9223372036854775807)(hn:0<n)(hH:H.set id (rdr s<|at'+n)=H'):
 cP W0 289 [.ptr id 0,.int .i64 k,.str t,.int .i64 n] H (.tup [H6 k t at',.bool true]) H':=A5.at1 (c302p hg s at' n k t h hn) hi rfl rfl rfl rfl rfl rfl hH
def Ss (x:Int):Int:=if 65≤x∧x≤90 then x+32 else x
def upF (x:Int):Int:=if 97≤x∧x≤122 then x-32 else x
theorem w32 {x:Int}(h1:-2147483648≤x)(h2:x≤2147483647):IntKind.i32.wrap x=x:=by rw[IntKind.wrap_i32];omega
theorem c92 (hg:hGr W0 G)(x:Nat)(hx:x≤1114111)(H:Hz):cP W0 96 [.int .i32 x] H (.int .i32<|Ss x) H:=by
 refine goA 96 13 ?_;refine sA<|lV Z<|ln<|sa<|sA<|lV Z ?_;refine lB Z Z O (λh1=>?_)<|λh1=>?_
 ·refine lV Z<|lGY Z<|A9 Z Z O<|lGY Z<|?_;refine lB Z Z O (λh2=>?_)<|λh2=>?_;·refine lV Z<|ln<|aT Z<|sA<|lV Z<|lS Z<|lV Z<|lV Z<|ln ?_;refine ExA.ret ?_;refine A6 O Z ?_ Z;show AVal.int .i32 (IntKind.i32.wrap<|IntKind.i32.wrap (_+_)-_)=_;rw[w32 (x:=_+_) Y Y,w32 Y Y];simp only[Ss];grind
  ·refine lV Z<|ln<|aF Z<|kA<|sA<|lV Z<|lV Z<|ln ?_;refine ExA.ret ?_;refine A6 O Z ?_ Z;simp_all[C9,Ss,if_neg]
 ·refine lV Z<|lGN Z Z<|lGN Z Z<|lV Z<|ln<|aF Z<|kA<|sA<|lV Z<|lV Z<|ln ?_;refine ExA.ret ?_;refine A6 O Z ?_ Z;simp only[C9,Ss];grind
theorem c354 (hg:hGr W0 G)(x:Nat)(hx:x≤1114111)(H:Hz):cP W0 232 [.int .i32 x] H (.int .i32<|upF x) H:=by
 refine goA 232 13 ?_;refine sA<|lV Z<|ln<|sa<|sA<|lV Z ?_;refine lB Z Z O (λh1=>?_)<|λh1=>?_
 ·refine lV Z<|lGY Z<|A9 Z Z O<|lGY Z<|?_;refine lB Z Z O (λh2=>?_)<|λh2=>?_;·refine lV Z<|ln<|aT Z<|sA<|lV Z<|lV Z<|lS Z<|lV Z<|ln ?_;refine ExA.ret ?_;refine A6 O Z ?_ Z;show AVal.int .i32 (IntKind.i32.wrap<|IntKind.i32.wrap (_-_)+_)=_;rw[w32 (x:=_-_) Y Y,w32 Y Y];simp only[upF];grind
  ·refine lV Z<|ln<|aF Z<|kA<|sA<|lV Z<|lV Z<|ln ?_;refine ExA.ret ?_;refine A6 O Z ?_ Z;simp_all[C9,upF,if_neg]
 ·refine lV Z<|lGN Z Z<|lGN Z Z<|lV Z<|ln<|aF Z<|kA<|sA<|lV Z<|lV Z<|ln ?_;refine ExA.ret ?_;refine A6 O Z ?_ Z;simp only[C9,upF];grind
theorem c362 (hg:hGr W0 G)(x:Nat)(hx:x≤1114111)(H:Hz):cP W0 325 [.int .i32 x] H (.int .i32<|upF x) H:=by
 refine goA 325 13 ?_;refine sA<|lV Z<|ln<|sa<|sA<|lV Z ?_;refine lB Z Z O (λh1=>?_)<|λh1=>?_
 ·refine lV Z<|lGY Z<|A9 Z Z O<|lGY Z<|?_;refine lB Z Z O (λh2=>?_)<|λh2=>?_;·refine lV Z<|ln<|aT Z<|sA<|lV Z<|lV Z<|lS Z<|lV Z<|ln ?_;refine ExA.ret ?_;refine A6 O Z ?_ Z;show AVal.int .i32 (IntKind.i32.wrap<|IntKind.i32.wrap (_-_)+_)=_;rw[w32 (x:=_-_) Y Y,w32 Y Y];simp only[upF];grind
  ·refine lV Z<|ln<|aF Z<|kA<|sA<|lV Z<|lV Z<|ln ?_;refine ExA.ret ?_;refine A6 O Z ?_ Z;simp_all[C9,upF,if_neg]
 ·refine lV Z<|lGN Z Z<|lGN Z Z<|lV Z<|ln<|aF Z<|kA<|sA<|lV Z<|lV Z<|ln ?_;refine ExA.ret ?_;refine A6 O Z ?_ Z;simp only[C9,upF];grind
theorem A7t (hg:hGr W0 G)(x:Nat)(hx:x≤1114111)(H:Hz):cP W0 371 [.int .i32 x,.eptr (.int .i32 97) 0,.eptr (.int .i32 65) 0] H (.int .i32<|upF x) H:=by
 refine goA 371 20 ?_;refine sA<|lV Z<|ln<|sa<|sA<|lV Z<|lV Z ?_;refine lB Z Z O (λh1=>?_)<|λh1=>?_
 ·refine lV Z<|lGY Z<|A9 Z Z O<|lGY Z<|A9 Z Z O<|lGY Z<|A9 (v:=.int .i32 123) Z Z (by simp_all[Ag])<|lGY Z<|?_;refine lB Z Z O (λh2=>?_)<|λh2=>?_;·refine lV Z<|ln<|aT Z<|sA<|lV Z<|lV Z<|lV Z<|lV Z<|lS Z<|lV Z<|ln ?_;refine ExA.ret ?_;refine A6 O Z ?_ Z;show AVal.int .i32 (IntKind.i32.wrap<|IntKind.i32.wrap (_-_)+_)=_;rw[w32 (x:=_-_) Y Y,w32 Y Y];simp only[upF];grind
  ·refine lV Z<|ln<|aF Z<|kA<|sA<|lV Z<|lV Z<|ln ?_;refine ExA.ret ?_;refine A6 O Z ?_ Z;simp only[C9,upF];grind
 ·refine lV Z<|lGN Z Z<|lGN Z Z<|lGN Z Z<|lGN Z Z<|lV Z<|ln<|aF Z<|kA<|sA<|lV Z<|lV Z<|ln ?_;refine ExA.ret ?_;refine A6 O Z ?_ Z;simp only[C9,upF];grind
theorem A9w (hg:hGr W0 G)(x:Nat)(hx:x≤1114111)(H:Hz):cP W0 371 [.int .i32 x,.eptr (.int .i32 65) 0,.eptr (.int .i32 97) 0] H (.int .i32<|Ss x) H:=by
 refine goA 371 20 ?_;refine sA<|lV Z<|ln<|sa<|sA<|lV Z<|lV Z ?_;refine lB Z Z O (λh1=>?_)<|λh1=>?_
 ·refine lV Z<|lGY Z<|A9 Z Z O<|lGY Z<|A9 Z Z O<|lGY Z<|A9 (v:=.int .i32 91) Z Z (by simp_all[Ag])<|lGY Z<|?_;refine lB Z Z O (λh2=>?_)<|λh2=>?_;·refine lV Z<|ln<|aT Z<|sA<|lV Z<|lV Z<|lV Z<|lV Z<|lS Z<|lV Z<|ln ?_;refine ExA.ret ?_;refine A6 O Z ?_ Z;show AVal.int .i32 (IntKind.i32.wrap<|IntKind.i32.wrap (_-_)+_)=_;rw[w32 (x:=_-_) Y Y,w32 Y Y];simp only[Ss];grind
  ·refine lV Z<|ln<|aF Z<|kA<|sA<|lV Z<|lV Z<|ln ?_;refine ExA.ret ?_;refine A6 O Z ?_ Z;simp only[C9,Ss];grind
 ·refine lV Z<|lGN Z Z<|lGN Z Z<|lGN Z Z<|lGN Z Z<|lV Z<|ln<|aF Z<|kA<|sA<|lV Z<|lV Z<|ln ?_;refine ExA.ret ?_;refine A6 O Z ?_ Z;simp only[C9,Ss];grind
theorem A1w (W:World):Gr Tryz.prog W []:=⟨λ_ _ h=>I5,Am⟩
def A9d (g:Nat)(caps:List AVal):Option (Int→Int):=match caps with| []=>cond (Nat.beq g 96) (some Ss) (cond (Nat.beq g 232||Nat.beq g 325) (some upF) none)| [.eptr (.int .i32 a) 0,.eptr (.int .i32 b) 0]=>cond (Nat.beq g 371) (cond (decide (a=97)&&decide (b=65)) (some upF)<|cond (decide (a=65)&&decide (b=97)) (some Ss) none) none|_=>none
theorem Ac2 (x:Nat)(h:x≤1114111):-2147483648≤Ss x∧Ss x≤2147483647:=by grind[Ss]
theorem A9k (x:Nat)(h:x≤1114111):-2147483648≤upF x∧upF x≤2147483647:=by grind[upF]
theorem Abj {g:Nat}{caps:List AVal}{f:Int→Int}(h:A9d g caps=some f):A8o Tryz.prog g=true∧(∀(W:World) (x:Nat),x≤1114111→A5 Tryz.prog W g (.int .i32 x::caps) [] (.int .i32<|f x) [])∧∀x:Nat,x≤1114111→-2147483648≤f x∧f x≤2147483647:=by
 unfold A9d at h;split at h
 ·cases h1:(Nat.beq g 96)with
  |true=>rw[h1,cond_true]at h;injection h with h;subst h;have:=nBq h1;subst this;exact⟨Am,λW x hx=>c92 (A1w W) x hx [],Ac2⟩
  |false=>
   rw[h1,cond_false]at h;cases h2:(Nat.beq g 232||Nat.beq g 325)with
   |true=>
    rw[h2,cond_true]at h;injection h with h;subst h;rw[Bool.or_eq_true]at h2;rcases h2 with h1|h1<;>(have:=nBq h1;subst this);·exact⟨Am,λW x hx=>c354 (A1w W) x hx [],A9k⟩
    ·exact⟨Am,λW x hx=>c362 (A1w W) x hx [],A9k⟩
   |false=>rw[h2]at h;cases h
 ·rename_i a b;cases h1:Nat.beq g 371 with
  |false=>rw[h1]at h;cases h
  |true=>
   rw[h1,cond_true]at h;have:=nBq h1;subst this;cases h2:(decide (a=97)&&decide (b=65))with
   |true=>rw[h2,cond_true]at h;injection h with h;subst h;simp only[bAt,dTe]at h2;obtain⟨rfl,rfl⟩:=h2;exact⟨Am,λW x hx=>A7t (A1w W) x hx [],A9k⟩
   |false=>
    rw[h2,cond_false]at h;cases h3:(decide (a=65)&&decide (b=97))with
    |true=>rw[h3,cond_true]at h;injection h with h;subst h;simp only[bAt,dTe]at h3;obtain⟨rfl,rfl⟩:=h3;exact⟨Am,λW x hx=>A9w (A1w W) x hx [],Ac2⟩
    |false=>rw[h3]at h;cases h
 ·cases h
def A6u (f:Int→Int)(s:Bz):Bool:=s.all λb=>Nat.blt b.toNat 128&&(decide (0≤f (b.toNat:Nat))&&decide (f (b.toNat:Nat)<128))
def tMap (H:Hz):List AVal→Option AVal
 | [.fn g [] caps,.str s]=>match Xd H caps with
  |some caps'=>match A9d g caps' with
   |some f=>cond (A6u f s&&Nat.ble s.length 1000000) (some<|.str<|A13 f s) none|none=>none
  |none=>none
 |_=>none
theorem A6v (hw:Lw W0){H:Hz}{args:List AVal}{v:AVal}(h:tMap H args=some v):cP W0 95 args H v H:=by
 unfold tMap at h;split at h
 ·rename_i g caps s;split at h
  ·rename_i caps' he;split at h
   ·rename_i f hf;cases hc:(A6u f s&&Nat.ble s.length 1000000)with
    |false=>rw[hc]at h;cases h
    |true=>
     rw[hc,cond_true]at h;injection h with h;subst h;simp only[bAt]at hc;have hl:=Nat.le_of_ble_eq_true hc.2;have hall:∀b∈s,b.toNat<128∧0≤f (b.toNat:Nat)∧f (b.toNat:Nat)<128:=by intro b hb;have:=List.all_eq_true.1 hc.1 b hb;simp_all
     obtain⟨k1,k2,k3⟩:=Abj hf;rw[←Adp s (List.all_eq_true.2 λb hb=>by simp_all) (λb hb=>(hall b hb).2)];exact lMap hw k1 he k2 k3 Y
   ·cases h
  ·cases h
 ·cases h
def A4p :List AVal→Option AVal
 | [.str s,.str t]=>cond (Nat.ble s.length 1000000) (some<|.int .i64<|Lib.index s t) none|_=>none
def Sm :List AVal→Option AVal
 | [.str s,.str t]=>cond (Nat.ble s.length 1000000) (some<|.bool<|Lib.contains s t) none|_=>none
def tCut :List AVal→Option AVal
 | [.str s,.str t]=>cond (Nat.ble s.length 1000000) (some<|.tup [.str (Lib.cut s t).1,.str (Lib.cut s t).2.1,.bool (Lib.cut s t).2.2]) none|_=>none
def A51 :List AVal→Option AVal
 | [.str s,.str [c]]=>some (.int .i64<|Lib.countByte s c)|_=>none
def A9g :List AVal→Option AVal
 | [.str s,.int .u8 n]=>cond (decide (((n.toNat.toUInt8).toNat:Int)=n)&&Nat.ble s.length 1000000) (some<|.int .i64<|Rt s n.toNat.toUInt8) none|_=>none
def dig2 (n:Nat):Bz:=cond (Nat.blt n 10) [UInt8.ofNat<|48+n] [UInt8.ofNat<|48+n/10,UInt8.ofNat<|48+n%10]
def A9i :List AVal→Option AVal
 | [.int .i64 n]=>cond (decide (0≤n)&&decide (n<100)) (some<|.str<|dig2 n.toNat) none|_=>none
def Ab3 :List AVal→Option AVal
 | [.str s]=>cond (Nat.ble s.length 1000000) (match Lib.atoiAll s with
  |.ok n=>some (.tup [.int .i64 n,.nilIf])|.range=>none|_=>some (.tup [.int .i64 0,errV])) none
 |_=>none
def A3u :List AVal→Option AVal
 | [.str s]=>cond (asc s&&Nat.ble s.length 1000000) (some<|.bool true) none|_=>none
def Aa0 (H:Hz):List AVal→Option AVal
 | [y,.str sep]=>match D6 1 H y with
  |some (ys,_)=>match K1 ys with
   |some l=>cond (Nat.ble l.length 1000000&&Nat.ble (Lib.join l sep).length 1000000) (some<|.str<|Lib.join l sep) none|none=>none
  |none=>none
 |_=>none
theorem dig2_ok {n:Nat}(h:n<100):dig2 n=Lib.decDigits n:=by
 unfold dig2;rw[Lib.decDigits];by_cases h1:n<10;·rw[dif_pos h1,show Nat.blt n 10=true by simp_all];rfl
 ·rw[dif_neg h1,show Nat.blt n 10=false from(by grind[Nat.blt_eq]),Lib.decDigits,dif_pos Y];rfl
theorem A5c :∀s:Bz,asc s=true→Lib.validD s=true:=by
 have go:∀(n:Nat) (s:Bz),asc s=true→Lib.validGoD n s=true:=by intro n;induction n with|zero=>intro s _;rfl|succ n ih=>intro s hs;cases s with|nil=>rfl|cons b r=>simp only[asc,List.all_cons,bAt,Nat.blt_eq]at hs;unfold Lib.validGoD;rw[if_neg Ax,Lib.decodeL_ascii b r hs.1,if_neg L2];exact ih r hs.2
 intro s hs;exact go _ s hs
def libTab :CallF:=λf args H=>
 let k:=λ(o:Option AVal)=>match o with|some v=>some (v,H)|none=>none
 cond (Nat.ble f 92) none (
 cond (Nat.beq f 95) (k (tMap H args)) (
 cond (Nat.beq f 276) (k (A4p args)) (
 cond (Nat.beq f 231) (k (Sm args)) (
 cond (Nat.beq f 151) (k (tCut args)) (
 cond (Nat.beq f 314) (k (A51 args)) (
 cond (Nat.beq f 228) (k (A9g args)) (
 cond (Nat.beq f 168) (k (A9i args)) (
 cond (Nat.beq f 167) (k (Ab3 args)) (
 cond (Nat.beq f 93) (k (A3u args)) (
 cond (Nat.beq f 364) (k (Aa0 H args)) none))))))))))
theorem A7n (hw:Lw W0){H:Hz}{args:List AVal}{v:AVal}(h:A4p args=some v):cP W0 276 args H v H:=by
 unfold A4p at h;split at h
 ·rename_i s t;cases hc:Nat.ble s.length 1000000 with
  |false=>rw[hc]at h;cases h
  |true=>rw[hc,cond_true]at h;injection h with h;subst h;have:=Nat.le_of_ble_eq_true hc;exact lIndex hw Y
 ·cases h
theorem A1j (hw:Lw W0){H:Hz}{args:List AVal}{v:AVal}(h:Sm args=some v):cP W0 231 args H v H:=by
 unfold Sm at h;split at h
 ·rename_i s t;cases hc:Nat.ble s.length 1000000 with
  |false=>rw[hc]at h;cases h
  |true=>rw[hc,cond_true]at h;injection h with h;subst h;have:=Nat.le_of_ble_eq_true hc;exact To hw Y
 ·cases h
theorem tCut_ok (hw:Lw W0){H:Hz}{args:List AVal}{v:AVal}(h:tCut args=some v):cP W0 151 args H v H:=by
 unfold tCut at h;split at h
 ·rename_i s t;cases hc:Nat.ble s.length 1000000 with
  |false=>rw[hc]at h;cases h
  |true=>rw[hc,cond_true]at h;injection h with h;subst h;have:=Nat.le_of_ble_eq_true hc;exact lCut hw Y
 ·cases h
theorem A8k (_:Lw W0){H:Hz}{args:List AVal}{v:AVal}(h:A51 args=some v):cP W0 314 args H v H:=by
 unfold A51 at h;split at h;·injection h with h;subst h;exact lCount1 _
 ·cases h
theorem Ab0 (_:Lw W0){H:Hz}{args:List AVal}{v:AVal}(h:A9g args=some v):cP W0 228 args H v H:=by
 unfold A9g at h;split at h
 ·rename_i s n;cases hc:(decide (((n.toNat.toUInt8).toNat:Int)=n)&&Nat.ble s.length 1000000)with
  |false=>rw[hc]at h;cases h
  |true=>rw[hc,cond_true]at h;injection h with h;subst h;simp only[bAt,dTe]at hc;have:=Nat.le_of_ble_eq_true hc.2;have h2:=lLast (W0:=W0) (H:=H) (s:=s) n.toNat.toUInt8 Y;rw[hc.1]at h2;exact h2
 ·cases h
theorem A9z (_:Lw W0){H:Hz}{args:List AVal}{v:AVal}(h:A9i args=some v):cP W0 168 args H v H:=by
 unfold A9i at h;split at h
 ·rename_i n;cases hc:(decide (0≤n)&&decide (n<100))with
  |false=>rw[hc]at h;cases h
  |true=>rw[hc,cond_true]at h;injection h with h;subst h;simp only[bAt,dTe]at hc;have h2:=lItoa (W0:=W0) (H:=H) (n:=n.toNat) Y;rw[←dig2_ok Y,Int.toNat_of_nonneg hc.1]at h2;exact h2
 ·cases h
theorem Aaw (hw:Lw W0){H:Hz}{args:List AVal}{v:AVal}(h:Ab3 args=some v):cP W0 167 args H v H:=by
 unfold Ab3 at h;split at h
 ·rename_i s;cases hc:Nat.ble s.length 1000000 with
  |false=>rw[hc]at h;cases h
  |true=>
   rw[hc,cond_true]at h;have:=Nat.le_of_ble_eq_true hc;split at h;·grind[lAtoi]
   ·cases h
   ·rename_i h1 h2;have h3:=atoiNil h1 h2;grind[Ad6]
 ·cases h
theorem A7k (hw:Lw W0){H:Hz}{args:List AVal}{v:AVal}(h:A3u args=some v):cP W0 93 args H v H:=by
 unfold A3u at h;split at h
 ·rename_i s;cases hc:(asc s&&Nat.ble s.length 1000000)with
  |false=>rw[hc]at h;cases h
  |true=>rw[hc,cond_true]at h;injection h with h;subst h;simp only[bAt]at hc;have:=Nat.le_of_ble_eq_true hc.2;have h2:=Acz hw (H:=H) (s:=s) Y;rw[A5c s hc.1]at h2;exact h2
 ·cases h
theorem Acj {H:Hz}{args:List AVal}{v:AVal}(h:Aa0 H args=some v):cP W0 364 args H v H:=by
 unfold Aa0 at h;split at h
 ·rename_i y sep;split at h
  ·rename_i ys m hy;split at h
   ·rename_i l hl;cases hc:(Nat.ble l.length 1000000&&Nat.ble (Lib.join l sep).length 1000000)with
    |false=>rw[hc]at h;cases h
    |true=>rw[hc,cond_true]at h;injection h with h;subst h;simp only[bAt]at hc;have h1:=Nat.le_of_ble_eq_true hc.1;have h2:=Nat.le_of_ble_eq_true hc.2;exact lJoin hy hl Y Y
   ·cases h
  ·cases h
 ·cases h
theorem Pg (hw:Lw W0):E6 Tryz.prog W0 libTab:=by
 intro f args H v H' h;unfold libTab at h;simp only at h;have step:∀{g:Nat}{o:Option AVal}{r:Option (AVal×Hz)},cond (Nat.beq f g) (match o with|some v=>some (v,H)|none=>none) r=some (v,H')→(o=some v→cP W0 g args H v H)→(r=some (v,H')→cP W0 f args H v H')→cP W0 f args H v H':=by
  intro g o r h1 h2 h3;cases hb:Nat.beq f g with
  |false=>rw[hb]at h1;exact h3 h1
  |true=>
   rw[hb,cond_true]at h1;have:=nBq hb;subst this;cases o with
   |none=>cases h1
   |some x=>simp only[iS,iP]at h1;obtain⟨rfl,rfl⟩:=h1;exact h2 Z
 cases h0:Nat.ble f 92 with
 |true=>rw[h0]at h;cases h
 |false=>rw[h0,cond_false]at h;refine step h (A6v hw) λh=>?_;refine step h (A7n hw) λh=>?_;refine step h (A1j hw) λh=>?_;refine step h (tCut_ok hw) λh=>?_;refine step h (A8k hw) λh=>?_;refine step h (Ab0 hw) λh=>?_;refine step h (A9z hw) λh=>?_;refine step h (Aaw hw) λh=>?_;refine step h (A7k hw) λh=>?_;exact step h Acj λh=>I5
end Go.Abs
namespace Go.Abs
open Go.Proofs Go.RowKit
set_option maxRecDepth 100000
theorem A0i :Ud Tryz.prog 215 4:=by
 intro args w hl;obtain⟨a,b,c,d,rfl⟩:∃a b c d,args=[a,b,c,d]:=by match args,hl with| [a,b,c,d],_=>grind
 have hn:∀w:World,(binOp BinOp.neq 20 .nilIface .nilIface).run Tryz.prog w= .ok (.bool false) w:=λ_=>by kernel_rfl
 refine callsD_of_wpS Tryz.func215 rfl λc₀ cs hu=>?_;apply wpS_seq;apply wpS_region;simp[wpOpsS,go_sem,recoverD,hu,Tryz.ntmps215,Exit.thenS];apply wpS_seq;apply wpS_region;simp[wpOpsS,go_sem,Exit.thenS,Array.replicate,hn];refine wpS_cond (t:=false) (by simp[Act.eval]) ?_;simp only[bFt,if_false];refine wpS_of_wp<|wp_skip ?_;cases c₀;simp_all[bodyPostS,results]
end Go.Abs
namespace Go.Abs
open Go.Proofs Go.RowKit
def GL :List (Nat×AVal):=[
 (3,.row 1 [.str [60,62],.str [60,61],.str [62,61],.str [61],.str [60],.str [62],.str [38],.str [43],.str [45],.str [42],.str [47],.str [94],.str [37],.str [40],.str [41],.str [44],.str [59],.str [58],.str [123],.str [125]]),
 (4,.row 1 [.str [35,78,85,76,76,33],.str [35,68,73,86,47,48,33],.str [35,86,65,76,85,69,33],.str [35,82,69,70,33],.str [35,78,65,77,69,63],.str [35,78,85,77,33],.str [35,78,47,65],.str [35,83,80,73,76,76,33],.str [35,67,73,82,67,33]])]
def Hr (_:Nat):Bool:=false
def Fb (g:Nat):Option Nat:=cond (Nat.beq g 215) (some 4) none
noncomputable def run (d:Nat):CallF:=Io Tryz.prog GL Hr Fb libTab (λcall ops s=>Z2 Tryz.prog GL call ops s) 1000 d
theorem run_ok {W0:World}(hg:GOK W0 GL)(hw:Lw W0)(d:Nat):E6 Tryz.prog W0 (run d):=by
 refine Rj hg (λg m h=>?_) (Pg hw) (λcall hc=>A41 Am hg hc) 1000 d;unfold Fb at h;cases hg:Nat.beq g 215 with
 |false=>rw[hg]at h;cases h
 |true=>rw[hg,cond_true]at h;injection h with h;subst h;have:=nBq hg;subst this;exact⟨A0i,Ez Am⟩
structure Ent where
 f:Nat
 args:List AVal
 v:AVal
def D2 (P:Program)(W0:World)(e:Ent):Prop:=Ab 0 e.args=true∧blw 0 e.v=true∧A5 P W0 e.f e.args [] e.v []
def Yp :List Ent→CallF
 | [],_,_,_=>none|e::r,f,args,H=>cond (Nat.beq f e.f) (cond (Nh args e.args) (some (e.v,H))<|Yp r f args H)<|Yp r f args H
theorem W6 {P:Program}{W0:World}:∀{l:List Ent},(∀e∈l,D2 P W0 e)→E6 P W0 (Yp l)
 | [],_,_,_,_,_,_,h=>I5|e::r,hl,f,args,H,v,H',h=>by have ih:=W6 (l:=r) λe he=>hl e (by simp[he]);simp only[Yp]at h;cases h1:Nat.beq f e.f with|false=>rw[h1]at h;exact ih _ _ _ _ _ h|true=>rw[h1,cond_true]at h;cases h2:Nh args e.args with|false=>rw[h2]at h;exact ih _ _ _ _ _ h|true=>rw[h2,cond_true]at h;simp only[iS,iP]at h;obtain⟨rfl,rfl⟩:=h;have:=nBq h1;subst this;rw[Im _ _ h2];obtain⟨k1,k2,k3⟩:=hl e Ax;exact A5.pure k1 k2 k3 H
noncomputable def Ju (l:List Ent)(d:Nat):CallF:=Io Tryz.prog GL Hr Fb (λf args H=>match libTab f args H with|some r=>some r|none=>Yp l f args H) (λcall ops s=>Z2 Tryz.prog GL call ops s) 1000 d
structure Kn (W0:World):Prop where
 g:GOK W0 GL
 w:Lw W0
theorem runT_ok {W0:World}(hk:Kn W0){l:List Ent}(hl:∀e∈l,D2 Tryz.prog W0 e)(d:Nat):E6 Tryz.prog W0 (Ju l d):=by
 refine Rj hk.g (λg m h=>?_) (λf args H v H' h=>?_) (λcall hc=>A41 Am hk.g hc) 1000 d
 ·unfold Fb at h;cases hg:Nat.beq g 215 with
  |false=>rw[hg]at h;cases h
  |true=>rw[hg,cond_true]at h;injection h with h;subst h;have:=nBq hg;subst this;exact⟨A0i,Ez Am⟩
 ·split at h;·rename_i r hr;injection h with h;subst h;exact Pg hk.w _ _ _ _ _ hr
  ·exact W6 hl _ _ _ _ _ h
theorem E9 {W0:World}(hk:Kn W0){l:List Ent}(hl:∀e∈l,D2 Tryz.prog W0 e){d f:Nat}{args:List AVal}{v:AVal}(h:Ju l d f args []=some (v,[]))(h1:Ab 0 args=true)(h2:blw 0 v=true):D2 Tryz.prog W0 ⟨f,args,v⟩:=⟨h1,h2,runT_ok hk hl d _ _ _ _ _ h⟩
theorem Dj {P:Program}{W0:World}:∀e∈([]:List Ent),D2 P W0 e:=λe h=>I5
theorem K6 {P:Program}{W0:World}{e:Ent}{l:List Ent}(h:D2 P W0 e)(hl:∀e∈l,D2 P W0 e):∀e'∈e::l,D2 P W0 e':=λe' h'=>by grind
theorem cK {W0:World}(hk:Kn W0){f:Nat}{x:List AVal}{v:AVal}(h:Ju [] 60 f x []=some (v,[]):=by kernel_rfl)(h1:Ab 0 x=true:=by kernel_rfl)(h2:blw 0 v=true:=by kernel_rfl):cP W0 f x [] v []:=(E9 hk Dj h h1 h2).2.2
end Go.Abs
namespace Go.Abs
abbrev zI :AVal:=.int .i64 0
abbrev zB :AVal:=.bool false
abbrev zT :AVal:=.str []
abbrev jI (n:Int):AVal:=.int .i64 n
def N0 (a b:Int):AVal:=.agg [zT,jI a,jI b,zB,zB,zB]
def N1 (a b:Int):AVal:=.agg [zT,jI a,jI b,.bool true,zB,zB]
def N2 (a b:Int):AVal:=.agg [zT,jI a,jI b,zB,.bool true,zB]
def N3 (a b:Int):AVal:=.agg [.str [83],jI a,jI b,zB,zB,zB]
def N4 (a b:Int):AVal:=.agg [.str [83],jI a,jI b,.bool true,zB,zB]
def N5 (a b:Int):AVal:=.agg [.str [83],jI a,jI b,zB,.bool true,zB]
def N6 (a b:Int):AVal:=.agg [.str [84,119,111,32,120],jI a,jI b,zB,zB,zB]
def N7 (a b:Int):AVal:=.agg [.str [84,119,111,32,120],jI a,jI b,.bool true,zB,zB]
def N8 (a b:Int):AVal:=.agg [.str [84,119,111,32,120],jI a,jI b,zB,.bool true,zB]
def N9 (a b:Int):AVal:=.agg [.str [116,104,105,114,100],jI a,jI b,zB,zB,zB]
def N10 (a b:Int):AVal:=.agg [.str [116,104,105,114,100],jI a,jI b,.bool true,zB,zB]
def N11 (a b:Int):AVal:=.agg [.str [116,104,105,114,100],jI a,jI b,zB,.bool true,zB]
def N12 (a:Bz)(b c:Int)(d e:Bool):AVal:=.agg [.str a,jI b,jI c,.bool d,.bool e,zB]
def N13 :AVal:=.tup [.agg [jI 1,zI],zI]
def N14 (a:Bz)(b c:Int)(d e:Bool):AVal:=.tup [N12 a b c d e,zI]
def N15 (a:Bz)(b:Int):AVal:=.agg [jI 5,.str a,jI b]
def N16 (a:Int):AVal:=.agg [jI 8,.str [43],jI a]
def N17 (a:Int):AVal:=.agg [jI 1,.str [49],jI a]
def N18 (a:Bz)(b c d:Int):AVal:=.row 3 [N15 a b,N16 c,N17 d]
def N19 (a:Bz)(b c:Int)(d e:Bool):AVal:=.agg [jI 5,zT,zI,zI,zB,zI,.str a,jI b,jI c,.bool d,.bool e,zB,zT,zI,zI,zB,zB,zB,zI,.nilSl]
def N20 :AVal:=.agg [jI 1,zT,jI 1,zI,zB,zI,zT,zI,zI,zB,zB,zB,zT,zI,zI,zB,zB,zB,zI,.nilSl]
def N21 (a:Bz)(b c:Int)(d e:Bool):AVal:=.tup [.agg [jI 9,.str [43],zI,zI,zB,zI,zT,zI,zI,zB,zB,zB,zT,zI,zI,zB,zB,zB,zI,.row 20 [N19 a b c d e,N20]],zI,zI]
def N22 (a:Bz)(b c d:Int):AVal:=.tup [N18 a b c d,zI,zI]
def N23 (a:Int):AVal:=.agg [jI 8,.str [42],jI a]
def N24 (a:Bz)(b c:Int)(d:Bz)(e:Int):AVal:=.row 3 [N15 a b,N23 c,N15 d e]
def N25 (a:Bz)(b c:Int)(d e:Bool)(f:Bz)(g h:Int)(i j:Bool):AVal:=.tup [.agg [jI 9,.str [42],zI,zI,zB,zI,zT,zI,zI,zB,zB,zB,zT,zI,zI,zB,zB,zB,zI,.row 20 [N19 a b c d e,N19 f g h i j]],zI,zI]
def N26 (a:Bz)(b c:Int)(d:Bz)(e:Int):AVal:=.tup [N24 a b c d e,zI,zI]
def N27 (a b:Int)(c d:Bool):AVal:=.agg [zT,jI a,jI b,.bool c,.bool d,zB]
def N28 (a b:Int)(c d:Bool):AVal:=.tup [N27 a b c d,zI]
def N29 (a:Int):AVal:=.agg [jI 8,.str [40],jI a]
def N30 (a:Int):AVal:=.agg [jI 8,.str [58],jI a]
def N31 (a:Int):AVal:=.agg [jI 8,.str [41],jI a]
def N32 (a b:Int)(c:Bz)(d e:Int)(f:Bz)(g h:Int):AVal:=.row 3 [.agg [jI 7,.str [83,85,77],jI a],N29 b,N15 c d,N30 e,N15 f g,N31 h]
def N33 (a:Bz)(b c:Int)(d e:Bool)(f g:Int)(h i:Bool):AVal:=.agg [jI 6,zT,zI,zI,zB,zI,.str a,jI b,jI c,.bool d,.bool e,zB,zT,jI f,jI g,.bool h,.bool i,zB,zI,.nilSl]
def N34 (a:Bz)(b c:Int)(d e:Bool)(f g:Int)(h i:Bool):AVal:=.tup [.agg [jI 12,.str [83,85,77],zI,zI,zB,zI,zT,zI,zI,zB,zB,zB,zT,zI,zI,zB,zB,zB,zI,.row 20 [N33 a b c d e f g h i]],zI,zI]
def N35 (a b:Int)(c:Bz)(d e:Int)(f:Bz)(g h:Int):AVal:=.tup [N32 a b c d e f g h,zI,zI]
def N36 :AVal:=.tup [.agg [zI,zI],zI]
def N37 :AVal:=.tup [.agg [jI 2,zI],zI]
def N38 (a:Int):AVal:=.agg [jI 1,.str [50],jI a]
def N39 (a:Int):AVal:=.agg [jI 8,.str [44],jI a]
def N40 (a b:Int)(c:Bz)(d e f g:Int)(h:Bz)(i j k l:Int):AVal:=.row 3 [.agg [jI 7,.str [73,70],jI a],N29 b,N15 c d,.agg [jI 8,.str [62],jI e],N38 f,N39 g,N15 h i,N39 j,.agg [jI 1,.str [48],jI k],N31 l]
def N41 :AVal:=.agg [jI 1,zT,jI 2,zI,zB,zI,zT,zI,zI,zB,zB,zB,zT,zI,zI,zB,zB,zB,zI,.nilSl]
def N42 (a:Bz)(b c:Int)(d e:Bool):AVal:=.row 20 [N19 a b c d e,N41]
def N43 (a:Bz)(b c:Int)(d e:Bool)(f:Bz)(g h:Int)(i j:Bool):AVal:=.tup [.agg [jI 12,.str [73,70],zI,zI,zB,zI,zT,zI,zI,zB,zB,zB,zT,zI,zI,zB,zB,zB,zI,.row 20 [.agg [jI 9,.str [62],zI,zI,zB,zI,zT,zI,zI,zB,zB,zB,zT,zI,zI,zB,zB,zB,zI,N42 a b c d e],N19 f g h i j,.agg [jI 1,zT,zI,zI,zB,zI,zT,zI,zI,zB,zB,zB,zT,zI,zI,zB,zB,zB,zI,.nilSl]]],zI,zI]
def N44 (a b:Int)(c:Bz)(d e f g:Int)(h:Bz)(i j k l:Int):AVal:=.tup [N40 a b c d e f g h i j k l,zI,zI]
def N45 :AVal:=.tup [.agg [jI 4,zI],zI]
def N46 :AVal:=.tup [.agg [jI 3,zI],zI]
def N47 (a b c d e f g h i j:Int)(k:Bz)(l:Int):AVal:=.row 3 [.agg [jI 8,.str [123],jI a],N17 b,N39 c,N38 d,.agg [jI 8,.str [59],jI e],.agg [jI 1,.str [51],jI f],N39 g,.agg [jI 1,.str [52],jI h],.agg [jI 8,.str [125],jI i],N16 j,N15 k l]
def N48 (a:Bz)(b c:Int)(d e:Bool):AVal:=.tup [.agg [jI 9,.str [43],zI,zI,zB,zI,zT,zI,zI,zB,zB,zB,zT,zI,zI,zB,zB,zB,zI,.row 20 [.agg [jI 13,zT,zI,zI,zB,zI,zT,zI,zI,zB,zB,zB,zT,zI,zI,zB,zB,zB,jI 2,.row 20 [N20,N41,.agg [jI 1,zT,jI 3,zI,zB,zI,zT,zI,zI,zB,zB,zB,zT,zI,zI,zB,zB,zB,zI,.nilSl],.agg [jI 1,zT,jI 4,zI,zB,zI,zT,zI,zI,zB,zB,zB,zT,zI,zI,zB,zB,zB,zI,.nilSl]]],N19 a b c d e]],zI,zI]
def N49 (a b c d e f g h i j:Int)(k:Bz)(l:Int):AVal:=.tup [N47 a b c d e f g h i j k l,zI,zI]
def N50 (a:Bz)(b c:Int)(d:Bz)(e f g:Int):AVal:=.row 3 [N15 a b,N30 c,N15 d e,N23 f,N38 g]
def N51 (a:Bz)(b c:Int)(d e:Bool)(f g:Int)(h i:Bool):AVal:=.tup [.agg [jI 9,.str [42],zI,zI,zB,zI,zT,zI,zI,zB,zB,zB,zT,zI,zI,zB,zB,zB,zI,.row 20 [N33 a b c d e f g h i,N41]],zI,zI]
def N52 (a:Bz)(b c:Int)(d:Bz)(e f g:Int):AVal:=.tup [N50 a b c d e f g,zI,zI]
def N53 :AVal:=.tup [.agg [zT,zI,zI,zB,zB,zB],jI 20]
def N54 (a:Int):AVal:=.agg [jI 6,.str [120],jI a]
def N55 (a:Int):AVal:=.agg [jI 8,.str [45],jI a]
def N56 (a b c d:Int)(e:Bz)(f g h i j k:Int)(l:Bz)(m n:Int):AVal:=.row 3 [.agg [jI 7,.str [76,69,84],jI a],N29 b,N54 c,N39 d,N15 e f,N39 g,N54 h,N23 i,N54 j,N55 k,N15 l m,N31 n]
def N57 :AVal:=.agg [jI 7,.str [120],zI,zI,zB,zI,zT,zI,zI,zB,zB,zB,zT,zI,zI,zB,zB,zB,zI,.nilSl]
def N58 (a:Bz)(b c:Int)(d e:Bool)(f:Bz)(g h:Int)(i j:Bool):AVal:=.tup [.agg [jI 16,.str [120],zI,zI,zB,zI,zT,zI,zI,zB,zB,zB,zT,zI,zI,zB,zB,zB,zI,.row 20 [N19 a b c d e,.agg [jI 9,.str [45],zI,zI,zB,zI,zT,zI,zI,zB,zB,zB,zT,zI,zI,zB,zB,zB,zI,.row 20 [.agg [jI 9,.str [42],zI,zI,zB,zI,zT,zI,zI,zB,zB,zB,zT,zI,zI,zB,zB,zB,zI,.row 20 [N57,N57]],N19 f g h i j]]]],zI,zI]
def N59 (a b c d:Int)(e:Bz)(f g h i j k:Int)(l:Bz)(m n:Int):AVal:=.tup [N56 a b c d e f g h i j k l m n,zI,zI]
def N60 (a:Int):AVal:=.agg [jI 6,.str [110],jI a]
def N61 (a b c d e f g h i j k l m n o p q r s t u v w x y z a26 a27 a28:Int)(a29:Bz)(a30 a31 a32:Int):AVal:=.row 3 [.agg [jI 7,.str [76,69,84],jI a],N29 b,.agg [jI 6,.str [102],jI c],N39 d,.agg [jI 7,.str [76,65,77,66,68,65],jI e],N29 f,N60 g,N39 h,.agg [jI 7,.str [73,70],jI i],N29 j,N60 k,.agg [jI 8,.str [60],jI l],N17 m,N39 n,N17 o,N39 p,N60 q,N23 r,.agg [jI 7,.str [102],jI s],N29 t,N60 u,N55 v,N17 w,N31 x,N31 y,N31 z,N39 a26,.agg [jI 7,.str [102],jI a27],N29 a28,N15 a29 a30,N31 a31,N31 a32]
def N62 :AVal:=.agg [jI 7,.str [110],zI,zI,zB,zI,zT,zI,zI,zB,zB,zB,zT,zI,zI,zB,zB,zB,zI,.nilSl]
def N63 :AVal:=.row 20 [N62,N20]
def N64 (a:Bz)(b c:Int)(d e:Bool):AVal:=.row 20 [N19 a b c d e]
def N65 (a:Bz)(b c:Int)(d e:Bool):AVal:=.tup [.agg [jI 16,.str [102],zI,zI,zB,zI,zT,zI,zI,zB,zB,zB,zT,zI,zI,zB,zB,zB,zI,.row 20 [.agg [jI 14,.str [110],zI,zI,zB,zI,zT,zI,zI,zB,zB,zB,zT,zI,zI,zB,zB,zB,zI,.row 20 [.agg [jI 12,.str [73,70],zI,zI,zB,zI,zT,zI,zI,zB,zB,zB,zT,zI,zI,zB,zB,zB,zI,.row 20 [.agg [jI 9,.str [60],zI,zI,zB,zI,zT,zI,zI,zB,zB,zB,zT,zI,zI,zB,zB,zB,zI,N63],N20,.agg [jI 9,.str [42],zI,zI,zB,zI,zT,zI,zI,zB,zB,zB,zT,zI,zI,zB,zB,zB,zI,.row 20 [N62,.agg [jI 12,.str [70],zI,zI,zB,zI,zT,zI,zI,zB,zB,zB,zT,zI,zI,zB,zB,zB,zI,.row 20 [.agg [jI 9,.str [45],zI,zI,zB,zI,zT,zI,zI,zB,zB,zB,zT,zI,zI,zB,zB,zB,zI,N63]]]]]]]]],.agg [jI 12,.str [70],zI,zI,zB,zI,zT,zI,zI,zB,zB,zB,zT,zI,zI,zB,zB,zB,zI,N64 a b c d e]]],zI,zI]
def N66 (a b c d e f g h i j k l m n o p q r s t u v w x y z a26 a27 a28:Int)(a29:Bz)(a30 a31 a32:Int):AVal:=.tup [N61 a b c d e f g h i j k l m n o p q r s t u v w x y z a26 a27 a28 a29 a30 a31 a32,zI,zI]
def N67 (a:Bz)(b c d:Int):AVal:=.row 3 [N15 a b,.agg [jI 8,.str [38],jI c],.agg [jI 2,.str [97],jI d]]
def N68 (a:Bz)(b c:Int)(d e:Bool):AVal:=.tup [.agg [jI 9,.str [38],zI,zI,zB,zI,zT,zI,zI,zB,zB,zB,zT,zI,zI,zB,zB,zB,zI,.row 20 [N19 a b c d e,.agg [jI 2,.str [97],zI,zI,zB,zI,zT,zI,zI,zB,zB,zB,zT,zI,zI,zB,zB,zB,zI,.nilSl]]],zI,zI]
def N69 (a:Bz)(b c d:Int):AVal:=.tup [N67 a b c d,zI,zI]
def N70 (a b:Int)(c:Bz)(d:Int):AVal:=.row 3 [N17 a,.agg [jI 8,.str [47],jI b],N15 c d]
def N71 (a:Bz)(b c:Int)(d e:Bool):AVal:=.tup [.agg [jI 9,.str [47],zI,zI,zB,zI,zT,zI,zI,zB,zB,zB,zT,zI,zI,zB,zB,zB,zI,.row 20 [N20,N19 a b c d e]],zI,zI]
def N72 (a b:Int)(c:Bz)(d:Int):AVal:=.tup [N70 a b c d,zI,zI]
def N73 :AVal:=.agg [zT,zI,zI,zB,zB,.bool true]
def N74 :AVal:=.tup [N73,zI]
def N75 (a b:Int)(c:Bz)(d:Int):AVal:=.row 3 [.agg [jI 5,.str [35,82,69,70,33],jI a],N16 b,N15 c d]
def N76 (a:Bz)(b c:Int)(d e:Bool):AVal:=.tup [.agg [jI 9,.str [43],zI,zI,zB,zI,zT,zI,zI,zB,zB,zB,zT,zI,zI,zB,zB,zB,zI,.row 20 [.agg [jI 5,zT,zI,zI,zB,zI,zT,zI,zI,zB,zB,.bool true,zT,zI,zI,zB,zB,zB,zI,.nilSl],N19 a b c d e]],zI,zI]
def N77 (a b:Int)(c:Bz)(d:Int):AVal:=.tup [N75 a b c d,zI,zI]
def N78 (a:Int)(b:Bz)(c d:Int):AVal:=.row 3 [N55 a,N15 b c,.agg [jI 8,.str [37],jI d]]
def N79 (a:Bz)(b c:Int)(d e:Bool):AVal:=.tup [.agg [jI 11,.str [37],zI,zI,zB,zI,zT,zI,zI,zB,zB,zB,zT,zI,zI,zB,zB,zB,zI,.row 20 [.agg [jI 10,.str [45],zI,zI,zB,zI,zT,zI,zI,zB,zB,zB,zT,zI,zI,zB,zB,zB,zI,N64 a b c d e]]],zI,zI]
def N80 (a:Int)(b:Bz)(c d:Int):AVal:=.tup [N78 a b c d,zI,zI]
def N81 (a b:Int)(c:Bz)(d e:Int)(f:Bz)(g h:Int)(i:Bz)(j k:Int):AVal:=.row 3 [.agg [jI 7,.str [67,79,85,78,84],jI a],N29 b,N15 c d,N30 e,N15 f g,N39 h,N15 i j,N31 k]
def N82 (a:Bz)(b c:Int)(d e:Bool)(f g:Int)(h i:Bool)(j:Bz)(k l:Int)(m n:Bool):AVal:=.tup [.agg [jI 12,.str [67,79,85,78,84],zI,zI,zB,zI,zT,zI,zI,zB,zB,zB,zT,zI,zI,zB,zB,zB,zI,.row 20 [N33 a b c d e f g h i,N19 j k l m n]],zI,zI]
def N83 (a b:Int)(c:Bz)(d e:Int)(f:Bz)(g h:Int)(i:Bz)(j k:Int):AVal:=.tup [N81 a b c d e f g h i j k,zI,zI]
def N84 (a b:Int)(c:Bz)(d:Int):AVal:=.row 3 [.agg [jI 6,.str [114,97,116,101],jI a],N23 b,N15 c d]
def N85 (a:Bz)(b c:Int)(d e:Bool):AVal:=.tup [.agg [jI 9,.str [42],zI,zI,zB,zI,zT,zI,zI,zB,zB,zB,zT,zI,zI,zB,zB,zB,zI,.row 20 [.agg [jI 7,.str [114,97,116,101],zI,zI,zB,zI,zT,zI,zI,zB,zB,zB,zT,zI,zI,zB,zB,zB,zI,.nilSl],N19 a b c d e]],zI,zI]
def N86 (a b:Int)(c:Bz)(d:Int):AVal:=.tup [N84 a b c d,zI,zI]
def N87 (a b:Int)(c:Bz)(d:Int):AVal:=.row 3 [.agg [jI 6,.str [79,119,110],jI a],N16 b,N15 c d]
def N88 (a:Bz)(b c:Int)(d e:Bool):AVal:=.tup [.agg [jI 9,.str [43],zI,zI,zB,zI,zT,zI,zI,zB,zB,zB,zT,zI,zI,zB,zB,zB,zI,.row 20 [.agg [jI 7,.str [79,119,110],zI,zI,zB,zI,zT,zI,zI,zB,zB,zB,zT,zI,zI,zB,zB,zB,zI,.nilSl],N19 a b c d e]],zI,zI]
def N89 (a b:Int)(c:Bz)(d:Int):AVal:=.tup [N87 a b c d,zI,zI]
def N90 (a b c d e:Int)(f:Bz)(g:Int):AVal:=.row 3 [.agg [jI 7,.str [83,85,77],jI a],N29 b,.agg [jI 9,.str [84,97,98,91,120,93],jI c],N31 d,N16 e,N15 f g]
def N91 (a:Bz)(b c:Int)(d e:Bool):AVal:=.tup [.agg [jI 9,.str [43],zI,zI,zB,zI,zT,zI,zI,zB,zB,zB,zT,zI,zI,zB,zB,zB,zI,.row 20 [.agg [jI 12,.str [83,85,77],zI,zI,zB,zI,zT,zI,zI,zB,zB,zB,zT,zI,zI,zB,zB,zB,zI,.row 20 [.agg [jI 8,.str [84,97,98,91,120,93],zI,zI,zB,zI,zT,zI,zI,zB,zB,zB,zT,zI,zI,zB,zB,zB,zI,.nilSl]]],N19 a b c d e]],zI,zI]
def N92 (a b c d e:Int)(f:Bz)(g:Int):AVal:=.tup [N90 a b c d e f g,zI,zI]
def N93 (a b c:Int):AVal:=.agg [jI a,jI b,jI c]
def N94 (a:Bz)(b c:Int):AVal:=.agg [.str a,jI b,jI c,zB,zB,zB]
def N95 (a:Bz)(b:Int):AVal:=.row 3 [N15 a b]
def N96 (a:Bz)(b c:Int)(d e:Bool):AVal:=.tup [N19 a b c d e,zI,zI]
def N97 (a:Bz)(b:Int):AVal:=.tup [N95 a b,zI,zI]
def N98 (a:Bz)(b c d:Int):AVal:=.row 3 [N15 a b,N23 c,N38 d]
def N99 (a:Bz)(b c:Int)(d e:Bool):AVal:=.tup [.agg [jI 9,.str [42],zI,zI,zB,zI,zT,zI,zI,zB,zB,zB,zT,zI,zI,zB,zB,zB,zI,N42 a b c d e],zI,zI]
def N100 (a:Bz)(b c d:Int):AVal:=.tup [N98 a b c d,zI,zI]
def Bh (a b:Int):HObj:=.cells 61 [jI a,jI b] false
def N102 :AVal:=.tup [.agg [zI,zI],jI 10]
def He (a:Int):HObj:=.cells 61 [jI 1,jI a] false
def Gp :HObj:=.cells 61 [zI,zI] false
def T8 (a b c:Int):AVal:=.tup [.agg [jI a,jI b],jI c]
def A8r (a b c:Int)(d:Bz)(e:Bool):HObj:=.cells 63 [jI a,jI b,jI c,.str d,.bool e] false
def A48 :HObj:=.cells 141 [zI,zI,zI,zT,zB,zI,zI,zI,.nilSl,zI,.nilSl,.nilSl] false
def A1f (a b:Int):AVal:=.tup [.agg [jI a,jI b],zI]
def A1x (a b c:Int)(d:Bz)(e:Bool):AVal:=.agg [jI a,jI b,jI c,.str d,.bool e]
def N110 (a b:Int):AVal:=.agg [jI 1,jI a,jI b,zT,zB,zI,zI,zI,.nilSl,zI,.nilSl,.nilSl]
def A7y (a b:Int):AVal:=.tup [.agg [jI a,jI b],jI 10]
def N112 :AVal:=.agg [jI 1,zI,zI,zT,zB,zI,zI,zI,.nilSl,zI,.nilSl,.nilSl]
def Nz (a:Bz):AVal:=.agg [jI 2,zI,zI,.str a,zB,zI,zI,zI,.nilSl,zI,.nilSl,.nilSl]
def N114 (a b:Int)(c:Bz)(d:Bool)(e:Int):AVal:=.agg [zI,jI a,jI b,.str c,.bool d,jI e,zI,zI,.nilSl,zI,.nilSl,.nilSl]
def N115 (a b:Int)(c:Bz)(d:Bool)(e:Int):AVal:=.agg [jI 1,jI a,jI b,.str c,.bool d,jI e,zI,zI,.nilSl,zI,.nilSl,.nilSl]
def N116 (a b:Int)(c:Bz)(d:Bool)(e:Int):AVal:=.agg [jI 3,jI a,jI b,.str c,.bool d,jI e,zI,zI,.nilSl,zI,.nilSl,.nilSl]
def N117 (a b:Int)(c:Bz)(d:Bool)(e:Int):AVal:=.agg [jI 4,jI a,jI b,.str c,.bool d,jI e,zI,zI,.nilSl,zI,.nilSl,.nilSl]
def N118 :AVal:=.tup [.str [70,65,76,83,69],zI]
def N119 :AVal:=.tup [.str [35,78,85,76,76,33],zI]
def N120 :AVal:=.tup [.str [35,68,73,86,47,48,33],zI]
def N121 :AVal:=.tup [.str [35,86,65,76,85,69,33],zI]
def N122 :AVal:=.tup [.str [35,82,69,70,33],zI]
def N123 :AVal:=.tup [.str [35,78,65,77,69,63],zI]
def N124 :AVal:=.tup [.str [35,78,85,77,33],zI]
def N125 :AVal:=.tup [.str [35,83,80,73,76,76,33],zI]
def N126 :AVal:=.tup [.str [35,67,73,82,67,33],zI]
end Go.Abs
namespace Go.Abs
open Go.Proofs Go.RowKit
set_option maxRecDepth 10000000
variable {W0 : World}
def Ns (f:Nat):Bool:=cond (Nat.beq f 149) true<|Nat.beq f 150
def Pv (_:Nat):Bool:=false
def Nu (f:Nat):Bool:=cond (Nat.beq f 114) true<|cond (Nat.beq f 37) true<|Nat.beq f 99
theorem idleK {g m:Nat}(h:Fb g=some m):Ud Tryz.prog g m∧Ed Tryz.prog g:=by
 unfold Fb at h;cases hg:Nat.beq g 215 with
 |false=>rw[hg]at h;cases h
 |true=>rw[hg,cond_true]at h;injection h with h;subst h;have:=nBq hg;subst this;exact⟨A0i,Ez Am⟩
theorem H7 (hk:Kn W0)(opq:Nat→Bool):Dp Tryz.prog W0 (G6 Tryz.prog GL Hr opq Fb libTab 1000 60):=Wc Am hk.g (λ_ _ h=>idleK h) (Pg hk.w) 1000 60
def B4 (op:BinOp)(a b:AVal):Bool:=match Y2 op none a b with
 |some (.bool b,_)=>b|_=>false
theorem obE {P:Program}{b c:Bool}(h:b=c):Ob.ok P W0 (.eq b c):=h
theorem obL {P:Program}{a b:Int}(h:a≤b):Ob.ok P W0 (.le a b):=h
theorem obV {P:Program}{a:AVal}:Ob.ok P W0 (.veq a a):=rfl
theorem obC {P:Program}{f:Nat}{args:List AVal}{H H':Hz}{v:AVal}(h:A5 P W0 f args H v H'):Ob.ok P W0 (.callH f args H v H'):=h
theorem obH {P:Program}{a:Hz}:Ob.ok P W0 (.hp a a):=rfl
def eqL :List Ob→List (Option AVal×Hz)
 | []=>[]|.veq a _::r=>(some a,[])::eqL r|.hp a _::r=>(none,a)::eqL r|_::r=>eqL r
def eqR :List Ob→List (Option AVal×Hz)
 | []=>[]|.veq _ a::r=>(some a,[])::eqR r|.hp _ a::r=>(none,a)::eqR r|_::r=>eqR r
def oLe :List Ob→Bool
 | []=>true|.le a b::r=>cond (decide<|a≤b) (oLe r) false|_::r=>oLe r
def Yn :List Ob→List Ob
 | []=>[]|.veq _ _::r=>Yn r|.hp _ _::r=>Yn r|.le _ _::r=>Yn r|o::r=>o::Yn r
theorem Q8 {P:Program}:∀{l:List Ob},eqL l=eqR l→oLe l=true→(∀o∈Yn l,o.ok P W0)→∀o∈l,o.ok P W0
 | [],_,_,_,o,h=>I5
 |.veq a b::r,h1,h2,h3,o,h=>by
  injection h1 with h1 h4;injection h1 with h1;injection h1 with h1;rcases List.mem_cons.1 h with rfl|h;·exact h1
  ·exact Q8 h4 h2 h3 o h
 |.hp a b::r,h1,h2,h3,o,h=>by
  injection h1 with h1 h4;injection h1 with _ h1;rcases List.mem_cons.1 h with rfl|h;·exact h1
  ·exact Q8 h4 h2 h3 o h
 |.le a b::r,h1,h2,h3,o,h=>by
  unfold oLe at h2;cases hd:decide (a≤b)with
  |false=>rw[hd]at h2;cases h2
  |true=>
   rw[hd]at h2;rcases List.mem_cons.1 h with rfl|h;·exact(of_decide_eq_true hd:a≤b)
   ·exact Q8 (l:=r) h1 h2 h3 o h
 |.eq a b::r,h1,h2,h3,o,h=>by
  rcases List.mem_cons.1 h with rfl|h;·exact h3 _<|List.mem_cons_self ..
  ·exact Q8 (l:=r) h1 h2 (λo ho=>h3 o<|List.mem_cons_of_mem _ ho) o h
 |.call f x v::r,h1,h2,h3,o,h=>by
  rcases List.mem_cons.1 h with rfl|h;·exact h3 _<|List.mem_cons_self ..
  ·exact Q8 (l:=r) h1 h2 (λo ho=>h3 o<|List.mem_cons_of_mem _ ho) o h
 |.callH f x H v H'::r,h1,h2,h3,o,h=>by
  rcases List.mem_cons.1 h with rfl|h;·exact h3 _<|List.mem_cons_self ..
  ·exact Q8 (l:=r) h1 h2 (λo ho=>h3 o<|List.mem_cons_of_mem _ ho) o h
def finL :Option (AVal×Hz×SS)→Option (AVal×Hz×List Ob×Bool×List (Option AVal×Hz))
 |some (v,H,s)=>some (v,H,Yn s.obs,oLe s.obs,eqL s.obs)|none=>none
def finR :Option (AVal×Hz×SS)→List (Option AVal×Hz)
 |some (_,_,s)=>eqR s.obs|none=>[]
noncomputable def cS (opq:Nat→Bool)(f:Nat)(x:List AVal)(H:Hz)(s:SS):Option (AVal×Hz×SS):=G6 Tryz.prog GL Hr opq Fb libTab 1000 60 f x H s
theorem C3 (hk:Kn W0)(opq:Nat→Bool){f:Nat}{x:List AVal}{H H':Hz}{v:AVal}{obs:List Ob}(s:SS)(h:finL (cS opq f x H s)=some (v,H',obs,true,finR<|cS opq f x H s))(hg:∀o∈obs,o.ok Tryz.prog W0):cP W0 f x H v H':=by
 cases hr:cS opq f x H s with
 |none=>rw[hr]at h;cases h
 |some y=>obtain⟨v1,H1,s1⟩:=y;rw[hr]at h;simp only[finL,finR,iS,iP]at h;obtain⟨rfl,rfl,rfl,h1,h2⟩:=h;exact E4 (H7 hk opq) hr<|Q8 h2 h1 hg
abbrev oC (W0:World)(f:Nat)(x:List AVal)(v:AVal):Prop:=Ob.ok Tryz.prog W0<|.call f x v
theorem gdE (b c:Bool){l:List Ob}(hl:∀o∈l,o.ok Tryz.prog W0)(h:b=c:=by first|(simp[B4,Y2,A1k,A3d,Wg,IntKind.wrap_i32];done)|(simp[B4,Y2,A1k,A3d,Wg,IntKind.wrap_i32];omega)):∀o'∈Ob.eq b c::l,o'.ok Tryz.prog W0:=gdC (obE h) hl
end Go.Abs
namespace Go.Abs
open Go.RowKit Go.Proofs Go.Sort
def C5 (ss:List Bz):List AVal:=ss.map AVal.str
section
variable {F : Nat → Prop} {bs : List Nat} {H : Hz} {w W0 : World}
theorem W9 {ss:List Bz}{vs:List Value}(h:Aa F bs H w (C5 ss) vs):vs=ss.map encStr:=by induction ss generalizing vs<;>grind[C5,Aa,Rep]
theorem Adm {ss:List Bz}:Aa F bs H w (C5 ss) (ss.map encStr):=by induction ss<;>grind[C5,Aa,Rep]
theorem A1i {ss ts:List Bz}(rest:List Value)(hl:ts.length=ss.length):putCells encStr 0 ts.toArray (ss.map encStr++rest).toArray=(ts.map encStr++rest).toArray:=by apply Array.ext';apply List.ext_getElem?;intro j;rw[Array.getElem?_toList];simp only[putCells,Array.getElem?_mapIdx,List.getElem?_toArray,Nat.zero_le,true_and,Nat.zero_add,Nat.sub_zero,List.size_toArray];grind
theorem A72 (hh:Ad W0 F bs H w){id b:Nat}{T:TypeId}{ss ts:List Bz}(ho:H[id]?=some (.cells T (C5 ss) false))(hb:bs[id]?=some b)(hl:ts.length=ss.length)(n:Nat)(os:Array Obj):
 Ad W0 F bs (H.set id<|.cells T (C5 ts) false) (grow (putRow encStr (Sort.ahead w n) b 0 ts.toArray) os)∧Ext bs H w bs (H.set id<|.cells T (C5 ts) false) (grow (putRow encStr (Sort.ahead w n) b 0 ts.toArray) os):=by
 obtain⟨vs,rest,fr,h1,h2,h3⟩:=hh.obj id _ b ho hb;obtain rfl:=W9 h2;have hlow:=hh.low b<|mGe hb;have hsz:(putRow encStr (Sort.ahead w n) b 0 ts.toArray).heap.size=w.heap.size:=by simp_all
 have hg0:=heap_sorted (n:=n) (os:=#[]) ts.toArray h1;rw[grow_empty,A1i rest hl]at hg0;have hgr:=grownBy_sorted (w:=w) (g:=b) (n:=n) (os:=#[]) ts.toArray;rw[grow_empty]at hgr;obtain⟨g1,g2,g3,_,g5⟩:=hgr;have hother:∀k,k≠b→(putRow encStr (Sort.ahead w n) b 0 ts.toArray).heap[k]?=w.heap[k]?:=λk hk=>by grind
 have hoe:Bd bs bs w (putRow encStr (Sort.ahead w n) b 0 ts.toArray) id (.cells T (C5 ss) false) (.cells T (C5 ts) false):=.inr ⟨T,_,Z,by simp[C5,hl],rfl⟩;have hext:=Ext.upd (w':=putRow encStr (Sort.ahead w n) b 0 ts.toArray) hh.nodup ho hb hsz hother hoe;have hbelow:Below W0.heap.size w (putRow encStr (Sort.ahead w n) b 0 ts.toArray):=⟨g1,g2,g3,Y,λk hk=>hother k Y⟩;have hup:=Ad.upd hh ho hb hbelow hsz hother hoe ⟨ts.map encStr,rest,fr,hg0,Adm,λj hj=>h3 j (by grind)⟩;obtain⟨k1,k2⟩:=hup.below<|A3v (Below.refl _ _) os;exact⟨k1,hext.trans k2⟩
theorem Yu {b:Nat}{T:TypeId}{ss:List Bz}{rest:List Value}{fr:Nat×Nat}(h1:w.heap[b]?=some (.cells (ss.map encStr++rest).toArray T fr))(h3:∀j,j<(ss.map encStr).length→¬(fr.1≤j∧j<fr.2)):Holds encStr w b 0 ss.toArray:=by
 intro j hj;have hj:j<ss.length:=Y;constructor;·rw[cell_of_row w b _ _ T fr h1];grind
 simp_all[World.frozen?]
end
section
variable {P : Program} {W0 : World} {H : Hz}
theorem sortP {f:Nat}(hf:Ed P f)
 (hc:∀(blk off cap:Nat) (ss:List Bz) (w:World),Holds encStr w blk off ss.toArray→blk<w.heap.size→ss.length<4611686018427387904→
  Calls P f #[.slice (some ⟨blk,off,none⟩) ss.length cap] w λe w'=>e= .returned (.tuple #[])∧∃n os,w'=grow (putRow encStr (Sort.ahead w n) blk off (ss.mergeSort λx y=>decide (x≤y)).toArray) os)
 {id n:Nat}{T:TypeId}{cp:Option Nat}{ss:List Bz} (ho:H[id]?=some (.cells T (C5 ss) false)) (hn:n=ss.length) (hs:ss.length<1000000):
 A5 P W0 f [.hsl 1 id 0 n cp] H (.tup []) (H.set id<|.cells T (C5<|ss.mergeSort λx y=>decide<|x≤y) false):=by
 subst hn;refine⟨hf,λF bs w cargs hh hr=>?_⟩;simp only[Aa,Rep]at hr;obtain⟨_,_,rfl,⟨_,hp⟩,rfl⟩:=hr;unfold Ce at hp;rw[ho]at hp;obtain⟨_,hp⟩:=hp;obtain⟨b,c,hb,rfl,_⟩:=hp Ax;obtain⟨vs,rest,fr,h1,h2,h3⟩:=hh.obj id _ b ho hb;obtain rfl:=W9 h2;have hlow:=hh.low b<|mGe hb;refine Calls.mono (hc b 0 c ss w (Yu h1 h3) hlow.2 Y) ?_;rintro e w' ⟨rfl,n,os,rfl⟩;obtain⟨k1,k2⟩:=A72 hh ho hb (ts:=ss.mergeSort λx y=>decide<|x≤y) (by simp_all) n os;grind[Rep,Aa]
theorem Aar {f:Nat}(hf:Ed P f)
 (hc:∀(blk off cap:Nat) (d:Array Bz) (w:World),Holds encStr w blk off d→d.size≤9223372036854775807→d.size≤cap→
  Calls P f #[.slice (some ⟨blk,off,none⟩) d.size cap] w λe w'=>e= .returned (.slice (some ⟨blk,off,none⟩) (Lib.compactUpTo d d.size).length cap)∧∃q,w'=putRow encStr (Sort.ahead w q) blk off (Lib.compactUpTo d d.size++List.replicate (d.size-(Lib.compactUpTo d d.size).length) []).toArray)
 {id n:Nat}{T:TypeId}{cp:Option Nat}{ss:List Bz} (ho:H[id]?=some (.cells T (C5 ss) false)) (hn:n=ss.length) (hs:ss.length<1000000) (hle:(Lib.compactUpTo ss.toArray ss.length).length≤ss.length):
 A5 P W0 f [.hsl 1 id 0 n cp] H (.hsl 1 id 0 (Lib.compactUpTo ss.toArray ss.length).length none) (H.set id<|.cells T (C5<|Lib.compactUpTo ss.toArray ss.length++List.replicate (ss.length-(Lib.compactUpTo ss.toArray ss.length).length) []) false):=by
 subst hn;refine⟨hf,λF bs w cargs hh hr=>?_⟩;simp only[Aa,Rep]at hr;obtain⟨_,_,rfl,⟨_,hp⟩,rfl⟩:=hr;unfold Ce at hp;rw[ho]at hp;obtain⟨_,hp⟩:=hp;obtain⟨b,c,hb,rfl,hlc,_⟩:=hp Ax;obtain⟨vs,rest,fr,h1,h2,h3⟩:=hh.obj id _ b ho hb;obtain rfl:=W9 h2;have hsz:ss.toArray.size=ss.length:=Ax;have hlen:(Lib.compactUpTo ss.toArray ss.length++List.replicate (ss.length-(Lib.compactUpTo ss.toArray ss.length).length) []).length=ss.length:=by simp;omega
 refine Calls.mono (hc b 0 c ss.toArray w (Yu h1 h3) Y Y) ?_;rintro e w' ⟨rfl,n,rfl⟩;simp only[hsz]at*;obtain⟨k1,k2⟩:=A72 hh ho hb (ts:=Lib.compactUpTo ss.toArray ss.length++List.replicate (ss.length-(Lib.compactUpTo ss.toArray ss.length).length) []) hlen n #[];grind[grow_empty,Rep,Ce,C5]
end
end Go.Abs
namespace Go.Abs
open Go.RowKit Go.Proofs
set_option maxRecDepth 10000000
variable {W0 : World} {F : Nat → Prop} {bs : List Nat} {H : Hz} {w : World} {G : List (Nat × AVal)}
theorem A2i {s t:Bz}:cP W0 106 [.str s,.str t] H (.str<|Lib.trimPrefix s t) H:=by refine A5.of_below Am λF bs w cargs hh hra=>?_;obtain⟨a,b,rfl,h1,h2⟩:=Ou hra;obtain rfl:=K2 h1;obtain rfl:=K2 h2;refine(Tryz.strings_TrimPrefix ⟨s.toArray⟩ ⟨t.toArray⟩ w).mono ?_;simp_all[Qw,Below.refl]
theorem lSort {id n:Nat}{T:TypeId}{cp:Option Nat}{ss:List Bz}(ho:H[id]?=some (.cells T (C5 ss) false))(hn:n=ss.length)(hs:ss.length<1000000):
 cP W0 84 [.hsl 1 id 0 n cp] H (.tup []) (H.set id<|.cells T (C5<|ss.mergeSort λx y=>decide<|x≤y) false):=
 sortP (Ez Am) (λblk off cap ss w hH hb hz=>Tryz.slices_Sort_string blk off cap ss w hH hb hz) ho hn hs
theorem A1r {id n:Nat}{T:TypeId}{cp:Option Nat}{ss:List Bz}(ho:H[id]?=some (.cells T (C5 ss) false))(hn:n=ss.length)(hs:ss.length<1000000)(hle:(Lib.compactUpTo ss.toArray ss.length).length≤ss.length):
 cP W0 85 [.hsl 1 id 0 n cp] H (.hsl 1 id 0 (Lib.compactUpTo ss.toArray ss.length).length none) (H.set id<|.cells T (C5<|Lib.compactUpTo ss.toArray ss.length++List.replicate (ss.length-(Lib.compactUpTo ss.toArray ss.length).length) []) false):=
 Aar (Ez Am) (λblk off cap d w h1 h2 h3=>Tryz.slices_Compact_string_arr blk off cap d w h1 h2 h3) ho hn hs hle
theorem grK (hk:Kn W0):hGr W0 GL:=⟨hk.g,Am⟩
theorem Gy (hk:Kn W0){d f:Nat}{args:List AVal}{v:AVal}(h:run d f args []=some (v,[]))(h1:Ab 0 args=true)(h2:blw 0 v=true)(H:Hz):cP W0 f args H v H:=A5.pure h1 h2 (run_ok hk.g hk.w d _ _ _ _ _ h) H
def B8 (c:Int)(n:Nat):Nat:=(if c<0 then-(c+1)else c).toNat%n
theorem tmodN {a:Int}{n:Nat}(h:0≤a):a.tmod (n:Nat)=((a.toNat%n:Nat):Int):=by grind
theorem pkA {c:Int}{n:Nat}(h:c<0):(-(c+1)).tmod (n:Nat)=((B8 c n:Nat):Int):=by rw[tmodN Y,B8,if_pos h]
theorem pkB {c:Int}{n:Nat}(h:¬c<0):c.tmod (n:Nat)=((B8 c n:Nat):Int):=by rw[tmodN Y,B8,if_neg h]
theorem Bm {c:Int}{n:Nat}(h:0<n):B8 c n<n:=Nat.mod_lt _ h
theorem R8 (hg:hGr W0 G){c:Int}{n:Nat}(h1':-9223372036854775808≤c)(h2':c≤9223372036854775807)(hn:0<n):cP W0 133 [.int .i64 c,.int .i64 (n:Nat)] [] (.int .i64 (B8 c n:Nat)) []:=by
 have hnn:(1:Int)≤(n:Nat)*(n:Nat):=by have:1*1≤n*n:=Nat.mul_le_mul hn hn;omega
 refine goA 133 13 ?_;refine sA<|lV Z<|ln<|sa<|sA<|lV Z ?_;refine lB Z Z O (λh1=>?_)<|λh1=>?_
 ·have hc:c<0:=by grind
  refine ln<|aT Z<|oA<|lV Z<|lKv (v:=.int .i64<|c+1) Z Z (by simp_all[Ag]) (congrArg (AVal.int .i64)<|w64 Y Y)<|lKv (v:=.int .i64<|-(c+1)) Z Z O (congrArg (AVal.int .i64) (by grind[w64]))<|lV Z<|ln<|sA<|lV Z<|lV Z<|lKv (v:=.int .i64 (B8 c n:Nat)) Z Z (by simp_all[Ag]) (congrArg (AVal.int .i64) (by grind[pkA]))<|lV Z<|ln ?_;exact ExA.ret<|A6 O Z Z Z
 ·have hc:¬c<0:=by grind
  refine ln<|aF Z<|kA<|sA<|lV Z<|lV Z<|lKv (v:=.int .i64 (B8 c n:Nat)) Z Z (by simp_all[Ag]) (congrArg (AVal.int .i64) (by grind[pkB]))<|lV Z<|ln ?_;exact ExA.ret<|A6 O Z Z Z
theorem pickC53 (hg:hGr W0 G){c:Int}{n:Nat}(h1:-9223372036854775808≤c)(h2:c≤9223372036854775807)(hn:0<n)(H:Hz):cP W0 133 [.int .i64 c,.int .i64 (n:Nat)] H (.int .i64 (B8 c n:Nat)) H:=A5.pure Z Z (R8 hg h1 h2 hn) H
theorem pickP5 (hg:hGr W0 G){c:Int}{n:Nat}(h1':-9223372036854775808≤c)(h2':c≤9223372036854775807)(hn:0<n):cP W0 8 [.int .i64 c,.int .i64 (n:Nat)] [] (.int .i64 (B8 c n:Nat)) []:=by
 have hnn:(1:Int)≤(n:Nat)*(n:Nat):=by have:1*1≤n*n:=Nat.mul_le_mul hn hn;omega
 refine goA 8 13 ?_;refine sA<|lV Z<|ln<|sa<|sA<|lV Z ?_;refine lB Z Z O (λh1=>?_)<|λh1=>?_
 ·have hc:c<0:=by grind
  refine ln<|aT Z<|oA<|lV Z<|lKv (v:=.int .i64<|c+1) Z Z (by simp_all[Ag]) (congrArg (AVal.int .i64)<|w64 Y Y)<|lKv (v:=.int .i64<|-(c+1)) Z Z O (congrArg (AVal.int .i64) (by grind[w64]))<|lV Z<|ln<|sA<|lV Z<|lV Z<|lKv (v:=.int .i64 (B8 c n:Nat)) Z Z (by simp_all[Ag]) (congrArg (AVal.int .i64) (by grind[pkA]))<|lV Z<|ln ?_;exact ExA.ret<|A6 O Z Z Z
 ·have hc:¬c<0:=by grind
  refine ln<|aF Z<|kA<|sA<|lV Z<|lV Z<|lKv (v:=.int .i64 (B8 c n:Nat)) Z Z (by simp_all[Ag]) (congrArg (AVal.int .i64) (by grind[pkB]))<|lV Z<|ln ?_;exact ExA.ret<|A6 O Z Z Z
theorem Ac6 (hg:hGr W0 G){c:Int}{n:Nat}(h1:-9223372036854775808≤c)(h2:c≤9223372036854775807)(hn:0<n)(H:Hz):cP W0 8 [.int .i64 c,.int .i64 (n:Nat)] H (.int .i64 (B8 c n:Nat)) H:=A5.pure Z Z (pickP5 hg h1 h2 hn) H
end Go.Abs
set_option linter.unusedVariables false
namespace Go.Abs
open Go.RowKit Go.Proofs Go.Shelf
theorem A4v {P:Program}{fits:TypeId→Bool}{d:Nat}{e:TypeId}{count n:Nat}(hc:1≤count)(h:rowAt P fits d e 1 0 n=true):rowAt P fits d e count 0 n=true:=by
 cases d with
 |zero=>simp[rowAt]at h
 |succ d=>
  unfold rowAt at h⊢;simp only at h⊢;split at h;·cases h
  ·grind
theorem Uj {P:Program}:∀{d:Nat}{e u:TypeId}{count n:Nat},1≤count→liesAt P d e 1 0 u n=true→liesAt P d e count 0 u n=true
 |0,_,_,_,_,_,h=>by simp[liesAt]at h
 |d+1,e,u,count,n,hc,h=>by
  unfold liesAt at h⊢;simp only[Bool.or_eq_true]at h⊢;rcases h with h|h;·grind[A4v]
  ·refine .inr ?_;split at h;·exact Uj hc h
   ·cases h
section
variable {P : Program} {ρ : Ren}
set_option maxHeartbeats 1000000 in
set_option maxRecDepth 100000 in
theorem strIn (L:Lays.n169 P ρ)(X:Builder.Extra P ρ)(b g cap:Nat)(cur:Array Value)(fr:Nat×Nat)(l:Bz)(w:World)(h0:l≠[])(hb:w.cell? ⟨b,1,none⟩=some (.slice (some ⟨g,0,none⟩) l.length cap))
 (hg:w.heap[g]?=some (.cells cur (ρ.t 5) fr)) (hnc:l.length≤cap) (hcm:cap≤maxLen) (hcs:l.length≤cur.size) (hx:∀j x,l[j]?=some x→w.cell? ⟨g,0+j,none⟩=some (.int .u8 x.toNat)):
 Calls P (ρ.f 169) #[.pointer<|some ⟨b,0,none⟩] w λe w'=>e= .returned (.string ⟨l.toArray⟩)∧w'=w.drew.freeze ⟨g,0,none⟩ l.length:=by
 have hl0:l.length≠0:=by grind
 have c1:w.drew.cell? ⟨b,1,none⟩=some (.slice (some ⟨g,0,none⟩) l.length cap):=hb;have hSD:(Builtin.unsafeSliceData_ #[(ρ.t 37)] (ρ.t 127) #[.slice (some ⟨g,0,none⟩) l.length cap]).run P w.drew= .ok (.pointer<|some ⟨g,0,none⟩) w.drew:=Lib.run_unsafeSliceData_row _ _ _ _ _ _ Y;have hUS:(Builtin.unsafeString_ #[(ρ.t 127),(ρ.t 3)] (ρ.t 9) #[.pointer<|some ⟨g,0,none⟩,.int .i64 l.length]).run P w.drew= .ok (.string ⟨l.toArray⟩) (w.drew.freeze ⟨g,0,none⟩ l.length):=by refine Lib.run_unsafeString_row w.drew (ρ.t 127) (ρ.t 3) (ρ.t 9) (ρ.t 5) L.t127 X.cellsByte g cur.size (by have hg':w.drew.heap[g]?=some (.cells cur (ρ.t 5) fr):=hg;simp[World.shape?,hg']) l h0 hcs (by grind[maxLen]) ?_;simp_all[Addr.add_at]
 have mixed:=L.mixed;have t72:=L.t72;have a72:=L.a72;have z72:=L.z72;have v72:=L.v72;have u72:=run_underlying L.t72;have t70:=L.t70;have a70:=L.a70;have z70:=L.z70;have v70:=L.v70;have u70:=run_underlying L.t70;have t37:=L.t37;have a37:=L.a37;have z37:=L.z37;have v37:=L.v37;have u37:=run_underlying L.t37;have t127:=L.t127;have a127:=L.a127;have z127:=L.z127;have v127:=L.v127;have u127:=run_underlying L.t127;have t3:=L.t3;have a3:=L.a3;have z3:=L.z3;have v3:=L.v3;have u3:=run_underlying L.t3;have t9:=L.t9;have a9:=L.a9;have z9:=L.z9;have v9:=L.v9;have u9:=run_underlying L.t9;have t5:=X.t5;have a5:=X.a5;have z5:=X.z5;have v5:=X.v5;have u5:=run_underlying X.t5
 go_enter L.f169,Body.n169_ntmps ρ
 go_wp2
 go_region_o
 all_goals(go_wp2;go_ret;exact⟨rfl,rfl⟩)
end
section
variable {P : Program} {ρ : Ren} {W0 : World} {H : Hz}
def tgT (T:TypeId):TypeId:=cond (Nat.blt T 1000000) (T+1000000) T
theorem A5y {n K:Nat}:Nat.blt (n+K) K=false:=A2n<|Nat.not_lt.2<|Nat.le_add_left K n
theorem tag_aux (T K:Nat):cond (Nat.blt (cond (Nat.blt T K) (T+K) T) K) (cond (Nat.blt T K) (T+K) T) ((cond (Nat.blt T K) (T+K) T)-K)=cond (Nat.blt T K) T (T-K):=by cases h:Nat.blt T K with|true=>simp only[cond_true,A5y,cond_false,Nat.add_sub_cancel]|false=>simp only[cond_false,h]
theorem Ab8 (T K:Nat):Nat.blt (cond (Nat.blt T K) (T+K) T) K=false:=by cases h:Nat.blt T K with|true=>simp only[cond_true,A5y]|false=>simp only[cond_false,h]
theorem Abc (T:TypeId):A01 (tgT T)=A01 T:=tag_aux T 1000000
theorem tgT_not (T:TypeId):Nat.blt (tgT T) 1000000=false:=Ab8 T 1000000
theorem A3s (w:World)(g n:Nat)(cur:Array Value)(T:TypeId)(fr:Nat×Nat)(hn:n≠0)(hg:w.heap[g]?=some (.cells cur T fr)):∃fr',(w.freeze ⟨g,0,none⟩ n).heap[g]?=some (.cells cur T fr')∧∀k,k≠g→(w.freeze ⟨g,0,none⟩ n).heap[k]?=w.heap[k]?:=by simp_all[World.freeze,Array.getElem?_modify,Ne.symm]
theorem strP (L:Lays.n169 P ρ)(X:Builder.Extra P ρ)(hb:Ed P<|ρ.f 169){id jd:Nat}{T TB:TypeId}{c0:AVal}{r:List AVal}{l:Bz}{n:Nat}{cp:Option Nat}(ho:H[id]?=some (.cells T (c0:: .hsl 1 jd 0 n cp::r) false))(hj:H[jd]?=some (.cells TB (u8c l) true))(hn:n=l.length)(h0:l≠[])(hTB:A01 TB=ρ.t 5):
 A5 P W0 (ρ.f 169) [.ptr id 0] H (.str l) (H.set jd<|.cells (tgT TB) (u8c l) true):=by
 subst hn;refine⟨hb,λF bs w cargs hh hr=>?_⟩;simp only[Aa,Rep]at hr;obtain⟨_,_,rfl,⟨_,hp⟩,rfl⟩:=hr;unfold Ey at hp;rw[ho]at hp;obtain⟨b,hbi,rfl⟩:=hp;obtain⟨vs,rest,fr,h1,h2,h3⟩:=hh.obj id _ b ho hbi;simp only[Aa]at h2;obtain⟨u0,us,rfl,_,u1,us',rfl,hu1,_⟩:=h2;simp only[Rep]at hu1;obtain⟨_,hu1⟩:=hu1;unfold Ce at hu1;rw[hj]at hu1;have hul:(u8c l).length=l.length:=Ys;obtain⟨_,hu1⟩:=hu1;obtain⟨g,cap,hbj,rfl,hnc,_,hop⟩:=hu1<|λ_=>⟨rfl,Y⟩;obtain⟨hcm,_⟩:=hop rfl;obtain⟨vb,rb,fb,g1,g2,g3⟩:=hh.obj jd _ g hj hbj;have hlow:=hh.low g<|mGe hbj;have hvb:vb=Lib.strCells ⟨l.toArray⟩:=by
  have key:∀(l:Bz) (vb:List Value),Aa F bs H w (u8c l) vb→vb=Lib.strCells ⟨l.toArray⟩:=by intro l;induction l<;>grind[u8c,Aa,Lib.strCells,Rep]
  grind
 have hsl:(Lib.strCells ⟨l.toArray⟩).length=l.length:=by rw[Lib.strCells_length];simp[ByteArray.size]
 have hc1:w.cell? ⟨b,1,none⟩=some (.slice (some ⟨g,0,none⟩) l.length cap):=by rw[cell_of_row w b 1 _ T fr h1];simp
 rw[hTB]at g1;refine Calls.mono (strIn L X b g cap _ fb l w h0 hc1 g1 hnc hcm (by grind)<|λj x hx=>?_) ?_;·rw[cell_of_row w g _ _ _ fb g1,hvb]<;>grind[Lib.strCells]
 ·rintro e w' ⟨rfl,rfl⟩;obtain⟨hdr,hde⟩:=hh.drew;have hl0:l.length≠0:=by grind
  have g1':w.drew.heap[g]?=some (.cells (vb++rb).toArray (ρ.t 5) fb):=g1;obtain⟨fr',f1,f2⟩:=A3s w.drew g l.length _ _ fb hl0 g1';have hbz:D4 (w.drew.freeze ⟨g,0,none⟩ l.length) g=D4 w.drew g:=by grind[D4]
  have hsz:(w.drew.freeze ⟨g,0,none⟩ l.length).heap.size=w.drew.heap.size:=by simp_all[World.freeze]
  have hoe:Bd bs bs w.drew (w.drew.freeze ⟨g,0,none⟩ l.length) jd (.cells TB (u8c l) true) (.cells (tgT TB) (u8c l) true):=.inr ⟨_,_,rfl,.inr ⟨rfl,rfl,λb' hb'=>by grind⟩⟩;have hext:=Ext.upd (w':=w.drew.freeze ⟨g,0,none⟩ l.length) hdr.nodup hj hbj hsz f2 hoe;refine⟨.string ⟨l.toArray⟩,bs,Z,Yy,Ad.upd hdr hj hbj (Lib.below_freeze (Below.refl _ _) (p:=⟨g,0,none⟩) hlow.1 _) hsz f2 hoe ⟨vb,rb,fr',by grind[Abc],?_,λh=>by grind[tgT_not]⟩,hde.trans hext⟩;grind[Aa.ext]
end
end Go.Abs
namespace Go.Abs
open Go.RowKit Go.Proofs Go.Shelf
theorem tz70 :Tryz.prog.underlying 104=some (.pointer 106):=Am
theorem tz164 :Tryz.prog.underlying 193=some .unsafePointer:=Am
theorem tz72' :(Tryz.prog.info? 106).map (·.size)=some 2:=Am
theorem tz72 :∃j,Tryz.prog.info? 106=some j∧j.size=2:=Option.map_eq_some_iff.1 tz72'
set_option maxHeartbeats 1000000 in
set_option maxRecDepth 100000 in
theorem Abq (b:Nat)(w:World){T:TypeId}{n:Nat}(h0:w.cell? ⟨b,0,none⟩=some (.pointer none))(hsh:w.shape? b=some (T,n))(hn:0<n)
 (hl:liesAt Tryz.prog Tryz.prog.depth T (n/Tryz.prog.cellsOf T) 0 106 1=true) (hfz:w.frozen? ⟨b,0,none⟩=false):
 Calls Tryz.prog 86 #[.pointer<|some ⟨b,0,none⟩] w λe w'=>e= .returned (.tuple #[])∧w'=w.setCell ⟨b,0,none⟩ (.pointer<|some ⟨b,0,none⟩):=by
 obtain⟨j,hj,hjs⟩:=tz72
 go_enter Tryz.func86,Tryz.ntmps86
 go_wp2
 rw[Lib.run_to_unsafe w ⟨b,0,none⟩ tz70 tz164 hj Y hsh hn];simp only[Result.andThen];rw[Oper.upon_value]
 go_wp2
 rw[run_callFunc_extern Tryz.func127 Am Am Am (e:=Extern.AbiNoEscape.same) Am];rw[Lib.run_noEscape];simp only[Result.andThen];rw[Oper.upon_value]
 go_wp2
 rw[Lib.run_from_unsafe w ⟨b,0,none⟩ tz164 tz70 hj hsh hl];simp only[Result.andThen];rw[Oper.upon_value]
 go_wp2
 go_end0
 grind
theorem ccPT {W0:World}{H:Hz}{id:Nat}{T:TypeId}{r:List AVal}(ho:H[id]?=some (.cells T (.nilPtr::r) false))(hT:Tryz.prog.cellsOf T=r.length+1)(hl:liesAt Tryz.prog Tryz.prog.depth T 1 0 106 1=true):
 cP W0 86 [.ptr id 0] H (.tup []) (H.set id<|.cells T (.ptr id 0::r) false):=by
 refine⟨Ez Am,λF bs w cargs hh hr=>?_⟩;simp only[Aa,Rep]at hr;obtain⟨_,_,rfl,⟨_,hp⟩,rfl⟩:=hr;unfold Ey at hp;rw[ho]at hp;obtain⟨b,hbi,rfl⟩:=hp;obtain⟨vs,rest,fr,h1,h2,h3⟩:=hh.obj id _ b ho hbi;simp only[Aa,Rep]at h2;obtain⟨_,us,rfl,rfl,hus⟩:=h2;have hlow:=hh.low b<|mGe hbi;have hul:=hus.length;have hc0:w.cell? ⟨b,0,none⟩=some (.pointer none):=by rw[cell_of_row w b 0 _ T fr h1];simp
 have hsh:w.shape? b=some (T,(Value.pointer none::us++rest).length):=by grind[World.shape?]
 have hfz:w.frozen? ⟨b,0,none⟩=false:=by simp_all[World.frozen?]
 have hcnt:1≤(Value.pointer none::us++rest).length/Tryz.prog.cellsOf T:=by simp_all[Nat.le_div_iff_mul_le]
 refine Calls.mono (Abq b w hc0 hsh Ax (Uj hcnt hl) hfz) ?_;rintro e w' ⟨rfl,rfl⟩;rw[setCell_eq_setRow w b 0 _ T fr _ h1];have hrow:((Value.pointer none::us++rest).toArray.setIfInBounds 0<|.pointer<|some ⟨b,0,none⟩)=((Value.pointer (some ⟨b,0,none⟩)::us)++rest).toArray:=by grind
 rw[hrow];have hnew:=setRow_heap w b _ ((Value.pointer (some ⟨b,0,none⟩)::us)++rest).toArray T fr h1;have hoe:Bd bs bs w (w.setRow b ((Value.pointer (some ⟨b,0,none⟩)::us)++rest).toArray) id (.cells T (.nilPtr::r) false) (.cells T (.ptr id 0::r) false):=.inr ⟨T,_,Z,Z,Z⟩;have hext:=Ext.upd (w':=w.setRow b ((Value.pointer (some ⟨b,0,none⟩)::us)++rest).toArray) hh.nodup ho hbi Ax (λk hk=>setRow_other w b k _ hk) hoe;refine⟨.tuple #[],bs,Z,by grind[Rep,Aa],Ad.upd hh ho hbi (Gj w _ hlow.1) Ax (λk hk=>setRow_other w b k _ hk) hoe ⟨_,rest,fr,hnew,?_,λj hj=>h3 j Y⟩,hext⟩;grind[Aa,Aa.ext,Rep,Ey]
set_option maxHeartbeats 1000000 in
set_option maxRecDepth 100000 in
theorem ccUsedT (b:Nat)(w:World)(h0:w.cell? ⟨b,0,none⟩=some (.pointer<|some ⟨b,0,none⟩)):
 Calls Tryz.prog 86 #[.pointer<|some ⟨b,0,none⟩] w λe w'=>e= .returned (.tuple #[])∧w'=w:=by
 obtain⟨j,hj,hjs⟩:=tz72
 go_enter Tryz.func86,Tryz.ntmps86
 go_wp2
 rw[Lib.run_neq_ptr_same w _ tz70 hj]
 go_wp2
 go_end0
 grind
theorem A9p {W0:World}{H:Hz}{id:Nat}{T:TypeId}{r:List AVal}(ho:H[id]?=some (.cells T (.ptr id 0::r) false)):
 cP W0 86 [.ptr id 0] H (.tup []) H:=by
 refine⟨Ez Am,λF bs w cargs hh hr=>?_⟩;simp only[Aa,Rep]at hr;obtain⟨_,_,rfl,⟨_,hp⟩,rfl⟩:=hr;unfold Ey at hp;rw[ho]at hp;obtain⟨b,hbi,rfl⟩:=hp;obtain⟨vs,rest,fr,h1,h2,h3⟩:=hh.obj id _ b ho hbi;simp only[Aa,Rep]at h2;obtain⟨u,us,rfl,⟨_,hu⟩,hus⟩:=h2;unfold Ey at hu;rw[ho]at hu;obtain⟨b',hb',rfl⟩:=hu;rw[hbi]at hb';injection hb' with hb';subst hb';have hc0:w.cell? ⟨b,0,none⟩=some (.pointer<|some ⟨b,0,none⟩):=by rw[cell_of_row w b 0 _ T fr h1];simp
 refine Calls.mono (ccUsedT b w hc0) ?_;rintro e w' ⟨rfl,rfl⟩;grind[Rep,Aa,Ext.refl]
end Go.Abs
namespace Go.Abs
open Go.Proofs Go.RowKit
set_option maxRecDepth 100000
variable {W0 : World} {G : List (Nat × AVal)}
theorem A8t {a:List Nat}{n:Nat}(h:n<a.length):(Bf a).getD n .nilIf= .int .i64 (a.getD n 0:Nat):=by grind[Bf]
theorem Jf {s:St}{x i:AOpd}{a:List Nat}{n:Nat}(hx:ev G s x=some (dg a))(hi:ev G s i=some (.int .i64 (n:Nat)))(hn:n<a.length):aop G s (.idxSl 1 x i)=some (.val (.eptr (.int .i64 (a.getD n 0:Nat)) 0) s.H [(0,(n:Nat)),((n:Nat)+1,(a.length:Nat))]):=by have h1:=A8t hn;have h2:=Df a;simp only[aop,hx,hi,dg,Int.toNat_natCast,h1,h2];rfl
theorem G4 {s:St}{x:AOpd}{a:List Nat}(hx:ev G s x=some (dg a)):aop G s (.len false x)=some (.val (.int .i64 (a.length:Nat)) s.H []):=by grind[Df,aop,dg,A8w]
theorem A5t {a:List Nat}{n:Nat}(h:n=K5 a a.length):AVal.row 1 ((Bf a).take (((n:Nat):Int)).toNat)=dg (Nk a):=by grind[Nk,dg,Bf,List.map_take]
theorem Z8 (hg:hGr W0 G){a:List Nat}(hl:a.length≤1000000):cP W0 247 [dg a] [] (dg<|Nk a) []:=by
 refine goM 247 21 ?_;refine sO<|x1 Z<|sO<|mV Z<|mV (v:=.int .i64 (a.length:Nat)) (G4 Z)<|x1 Z<|sq<|bM ?_;refine ExM.loop (σ:=Nat) (λn=>⟨.al [(0,dg a),(3,.int .i64 (n:Nat))],[],21⟩) (λn=>n≤a.length∧K5 a n=K5 a a.length) (λn=>n) a.length (Aq 0 Z (Nat.le_refl _) Z Z<|fzC Z fvD<|fI fzN) ⟨Nat.le_refl _,Z⟩ ?_;rintro n ⟨hn,ht⟩;cases n with
 |zero=>refine sq<|sO<|mV Z<|mBk hg gN (c:=false) Z Z Ax<|mV Z<|mG<|mG<|mG<|mG<|mG<|mG<|x1 Z<|cF Z ?_;refine ExM.exit ?_;refine sO<|m2 Z Z<|mS Z<|x1 Z ?_;exact ExM.ret<|A6 O Z (A5t (by rw[←ht];rfl)) Z
 |succ k=>
  by_cases hz:a.getD k 0=0;·refine sq<|sO<|mV Z<|mT Z<|m3 Z Z Z<|mI ((k:Nat)) Z<|mS (v:=.eptr (.int .i64 (a.getD k 0:Nat)) 0) (Jf Z Z Y)<|mV Z<|mBk hg (gS Z) (c:=true) Z Z (by grind)<|x1 Z<|cT Z<|kM<|bM<|oM<|mV Z<|mI ((k:Nat)) Z<|x1 Z ?_;exact⟨k,⟨Y,by simp_all[K5]⟩,Y,Aq 0 rfl (Nat.le_refl _) rfl rfl<|fzC Z fvD<|fI fzN⟩
  ·refine sq<|sO<|mV Z<|mT Z<|m3 Z Z Z<|mI ((k:Nat)) Z<|mS (v:=.eptr (.int .i64 (a.getD k 0:Nat)) 0) (Jf Z Z Y)<|mV Z<|mF Z<|x1 Z<|cF Z ?_;refine ExM.exit ?_;refine sO<|m2 Z Z<|mS Z<|x1 Z ?_;exact ExM.ret<|A6 O Z (A5t (by simp_all[K5])) Z
def dN (n:Nat):AVal:=dg<|E0 n
theorem A9c (n:Nat)(l:List Nat):blw n (dg l)=true:=B5 l
def ov (b:Nat):List Nat→AVal
 | []=>.nilSl|d::r=>.hsl 1 (b+1) 0 (d::r).length none
def oh :List Nat→Hz
 | []=>[]|d::r=>[.cells 3 [.int .i64 (d:Nat)] false,.cells 3 (Bf (d::r)) true]
theorem fvOv {l:List Nat}:FzV (oh l) 0 (ov 0 l) (dg l):=by cases l with|nil=>exact Re|cons d r=>exact Qi (Nat.zero_le _) rfl
theorem fvOv1 {o:HObj}{l:List Nat}:FzV (o::oh l) 1 (ov 1 l) (dg l):=by cases l with|nil=>exact Re|cons d r=>exact Qi V rfl
theorem A82 (l:List Nat)(d:Nat):Bf (l++[d])=Bf l++[.int .i64 (d:Nat)]:=by simp[Bf]
theorem appS {s:St}{x y:AOpd}{l:List Nat}{id idy e:Nat}{H':Hz}{cp:Option Nat}(hx:ev G s x=some (.hsl 1 id 0 l.length none))(hy:ev G s y=some (.hsl 1 idy 0 1 cp))(hoy:s.H[idy]?=some (.cells 3 [.int .i64 (e:Nat)] false))
 (ho:s.H[id]?=some (.cells 3 (Bf l) true)) (hH:s.H.set id (.cells 3 (Bf<|l++[e]) true)=H'):aop G s (.append 3 1 8 x y)=some (.val (.hsl 1 id 0 (l++[e]).length none) H' [(((l.length+1)*8:Nat),C6),((l.length+1:Nat),C6)]):=by
 subst hH;have h1:(Bf l).length=l.length*1:=by rw[Df,Nat.mul_one]
 have h2:(l++[e]).length=l.length+1:=Ax;have hy':D6 1 s.H (.hsl 1 idy 0 1 cp)=some ([.int .i64 (e:Nat)],1):=by simp_all[D6]
 rw[h2,A82];simp only[aop,hx,hy,Qs,hy',Gl,ho,h1,Nat.beq_refl,cond_true,Bool.and_self];rfl
theorem Fe {n:Nat}(h:n≤1000000):Ag [((n*8:Nat),C6),((n:Nat),C6)]:=by simp only[Ag,C6,and_true];omega
theorem atP (hg:hGr W0 G){a:List Nat}{i:Nat}(H:Hz):cP W0 254 [dg a,.int .i64 (i:Nat)] H (.int .i64 (a.getD i 0:Nat)) H:=by
 refine A5.pure A8v Z ?_ H;refine goM 254 13 ?_;refine sO<|x1 Z<|sq<|sO<|m2 Z Z<|mV (v:=.int .i64 (a.length:Nat)) (G4 Z) ?_;by_cases hi:i<a.length;·refine mT Z<|mn<|cT Z<|sO<|m2 Z Z<|mS (v:=.eptr (.int .i64 (a.getD i 0:Nat)) 0) (Jf Z Z Y)<|x2 Z Z<|ExM.ret ?_;exact pS
 ·refine mF Z<|mn<|cF Z<|kM<|sO<|x1 Z<|ExM.ret ?_;exact A6 O Z (iE (by grind)) Z
theorem lessP (hg:hGr W0 G){a b:List Nat}(hl:a.length≤1000000)(hlb:b.length≤1000000)(H:Hz):cP W0 202 [dg a,dg b] H (.bool<|Wn a b) H:=by
 refine A5.pure A8v Z ?_ H;refine goM 202 41 ?_;by_cases hab:a.length=b.length
 ·refine sO<|x1 Z<|sq<|sO<|mV Z<|mV (v:=.int .i64 (a.length:Nat)) (G4 Z)<|mV Z<|mV (v:=.int .i64 (b.length:Nat)) (G4 Z)<|mBk hg gN (c:=false) Z Z (by grind)<|mn<|cF Z<|kM<|sq<|sO<|mV Z<|mV (v:=.int .i64 (a.length:Nat)) (G4 Z)<|mK (v:=.int .i64<|(a.length:Nat)-1) Z (Bj Y Y Z)<|x1 Z<|bM<|ExM.loop (σ:=Nat) (λn=>⟨.al [(0,dg a),(1,dg b),(5,.int .i64<|((n:Nat):Int)-1)],[],41⟩) (λn=>n≤a.length∧S5 a b n=S5 a b a.length) (λn=>n) a.length (Aq 0 Z (Nat.le_refl _) Z Z<|fzC Z fvD<|fzC Z fvD<|fI fzN) ⟨Nat.le_refl _,Z⟩ ?_;rintro n ⟨hn,ht⟩;cases n with
  |zero=>refine sq<|sO<|mV Z<|mF Z<|mn<|cF Z<|ExM.exit<|sO<|x1 Z<|ExM.ret ?_;exact A6 O Z (congrArg AVal.bool (by rw[Wn,if_pos hab,←ht];rfl)) Z
  |succ k=>
   refine sq<|sO<|mV Z<|mT Z<|mn<|cT Z<|kM<|sq<|bM<|sq<|ExM.draw hg<|Ak Z Z O<|qKv (v:=.int .i64 (k:Nat)) Z Z O (iE Y)<|Ak (v:=.eptr (.int .i64 (a.getD k 0:Nat)) 0) (Jf Z Z Y) Z A21<|Ak Z Z O<|Ak Z Z O<|qKv (v:=.int .i64 (k:Nat)) Z Z O (iE Y)<|Ak (v:=.eptr (.int .i64 (b.getD k 0:Nat)) 0) (Jf Z Z Y) Z A21<|Ak Z Z O ?_;by_cases hz:a.getD k 0=b.getD k 0;·refine qBk (c:=false) Z Z (by grind)<|Dl<|ExM.condF hg Z<|ExM.skip<|ExM.ops hg<|Ac hg gN Z Z O<|mKv hg gN (v:=.int .i64<|(k:Nat)-1) Z Z O (Bj Y Y Y)<|Ac hg gN Z Z O<|Ba ?_;exact⟨k,⟨Y,by simp_all[S5]⟩,Y,Aq 0 rfl (Nat.le_refl _) rfl rfl<|fzC Z fvD<|fzC Z fvD<|fI fzN⟩
   ·refine qBk (c:=true) Z Z (by grind)<|Dl<|ExM.condT hg Z<|ExM.seq<|ExM.draw hg<|Ak Z Z O<|qKv (v:=.int .i64 (k:Nat)) Z Z O (iE Y)<|Ak (v:=.eptr (.int .i64 (a.getD k 0:Nat)) 0) (Jf Z Z Y) Z A21<|Ak Z Z O<|Ak Z Z O<|qKv (v:=.int .i64 (k:Nat)) Z Z O (iE Y)<|Ak (v:=.eptr (.int .i64 (b.getD k 0:Nat)) 0) (Jf Z Z Y) Z A21<|Ak Z Z O<|Ak Z Z O<|Ak Z Z O<|Dl<|ExM.ret ?_;exact A6 O Z (congrArg AVal.bool (by simp_all[Wn,S5])) Z
 ·refine sO<|x1 Z<|sq<|sO<|mV Z<|mV (v:=.int .i64 (a.length:Nat)) (G4 Z)<|mV Z<|mV (v:=.int .i64 (b.length:Nat)) (G4 Z)<|mT Z<|mn<|cT Z<|sO<|mV Z<|mV (v:=.int .i64 (a.length:Nat)) (G4 Z)<|mV Z<|mV (v:=.int .i64 (b.length:Nat)) (G4 Z)<|x2 Z Z<|ExM.ret ?_;exact A6 O Z (congrArg AVal.bool (by simp_all[Wn])) Z
theorem A8u (n:Nat):Jm [.int .i64 0] n=Bf (List.replicate n 0):=by simp_all[Jm,Bf,List.eq_replicate_iff,Nat.mod_one]
theorem A76 {H:Hz}(l:List Nat):D6 1 H (dg l)=some (Bf l,l.length):=by
 have h:(Bf l).flatMap AVal.cells=Bf l:=by induction l with|nil=>rfl|cons d l ih=>rw[Bf,List.map_cons,List.flatMap_cons];rw[Bf]at ih;rw[ih];rfl
 simp only[dg,D6,Nat.beq_refl,cond_true,h,Df]
theorem all_one (l:List Nat):(Bf l).all AVal.one=true:=by induction l with|nil=>rfl|cons d l ih=>exact ih
theorem Abp {s:St}{x y:AOpd}{l z:List Nat}{id m:Nat}{H':Hz}(hx:ev G s x=some (.hsl 1 id 0 m<|some m))(hy:ev G s y=some (dg l))(hl:l.length≠0)
 (ho:s.H[id]?=some (.cells 3 (Bf z) false)) (hm:z.length=m) (hH:s.H++[.cells 3 (Bf<|z++l) true]=H'):aop G s (.append 3 1 8 x y)=some (.val (.hsl 1 s.H.length 0 (z++l).length none) H' [((((z++l).length)*8:Nat),C6),(((z++l).length:Nat),C6)]):=by
 subst hH;subst hm;have h3:Nat.beq l.length 0=false:=by grind[Nat.eq_of_beq_eq_true]
 have h4:((Bf z).drop 0).take (z.length*1)=Bf z:=by simp_all[List.take_of_length_le,Df]
 have h5:Bf (z++l)=Bf z++Bf l:=by simp[Bf]
 simp_all[aop,Qs,A76,all_one,Gl]
theorem Abf {s:St}{x y:AOpd}{l:List Nat}{id m:Nat}{c:Option Nat}(hx:ev G s x=some (.hsl 1 id 0 m c))(hy:ev G s y=some (dg l))(hl:l.length=0):aop G s (.append 3 1 8 x y)=some (.val (.hsl 1 id 0 m c) s.H []):=by have:l=[]:=List.length_eq_zero_iff.1 hl;subst this;simp only[aop,hx,hy,Qs,A76];rfl
theorem mkSlD {s:St}{x:AOpd}{n:Nat}(hx:ev G s x=some (.int .i64 (n:Nat))):aop G s (.mkSl 3 1 [.int .i64 0] x x)=some (.val (.hsl 1 s.H.length 0 n<|some n) (s.H++[.cells 3 (Bf<|List.replicate n 0) false]) [(0,(n:Nat)),((n:Nat),1000000),((n:Nat),(n:Nat)),((n:Nat),(n:Nat))]):=by simp_all[A8u,aop]
theorem frzOpen {H:Hz}{n id T:Nat}{l:List Nat}{cap:Option Nat}(hn:n≤id)(ho:H[id]?=some (.cells T (Bf l) true)):frz H n (l.length+3) (.hsl 1 id 0 l.length cap)=some (dg l):=by
 have h1:Nat.blt id n=false:=A2n Y;have h2:(Nat.beq 0 0&&Nat.beq (l.length*1) (Bf l).length)=true:=by simp[Df]
 have h3:=K9 l [];rw[List.append_nil]at h3;simp only[frz,h1,cond_false,ho,h2,cond_true,h3,Lh];rfl
def A4g (a:List Nat)(n:Int):AVal:=if a.length=0 then .nilSl else dg (List.replicate n.toNat 0++a)
theorem tenP (hg:hGr W0 G){a:List Nat}{n:Int}(hl:a.length≤1000000)(hn:n≤1000)(H:Hz):cP W0 204 [dg a,.int .i64 n] H (A4g a n) H:=by
 refine A5.pure A8v (by rw[A4g];split;rfl;exact A9c 0 _) ?_ H;refine goM 204 13 ?_;refine sO<|x1 Z<|sq<|sO<|mV Z<|mV (v:=.int .i64 (a.length:Nat)) (G4 Z) ?_;by_cases hz:a.length=0;·refine mBk hg gN (c:=true) Z Z (by grind)<|mn<|cT Z<|sO<|x1 Z<|ExM.ret ?_;refine A6 O Z ?_ Z;rw[A4g,if_pos hz];rfl
 ·refine mF Z<|mn<|cF Z<|kM<|sO<|mV Z<|mK (v:=.int .i64 (n.toNat:Nat)) Z (iE (by grind))<|Ac hg gN (v:=.hsl 1 0 0 n.toNat<|some n.toNat) (mkSlD Z) Z Ld<|mV Z<|Ac hg gN (v:=.hsl 1 1 0 (List.replicate n.toNat 0++a).length none) (Abp Z Z hz Z Ax Z) Z bY145<|x1 Z<|ExM.ret ?_;refine A4 O Z Z ((List.replicate n.toNat 0++a).length+3) ?_ Z;rw[A4g,if_neg hz];exact frzOpen V Z
def us (H:Hz)(id jd:Nat)(at_:AVal)(l:Bz):Hz:=(H.set jd<|.cells 5 (u8c l) true).set id<|.cells 108 [.ptr id 0,.hsl 1 jd 0 l.length none,at_] false
theorem Gq {H:Hz}{id jd:Nat}{at_:AVal}{l:Bz}:(us H id jd at_ l).length=H.length:=by simp[us]
theorem Vi {H X:Hz}{id jd:Nat}{at_:AVal}{l:Bz}:(us H id jd at_ l++X).take H.length=us H id jd at_ l:=by grind[Gq]
theorem A78 {H:Hz}{n i:Nat}{T:TypeId}{cs:List AVal}{op:Bool}(hb:B9 n H=true)(h:H[i]?=some (.cells T cs op)):Ab n cs=true:=Oq hb h
theorem Tv {H:Hz}{id jd n:Nat}{at_:AVal}{l':Bz}{T:TypeId}{c0 c1:AVal}(hb:B9 n H=true)(ho:H[id]?=some (.cells T [c0,c1,at_] false))(hi:id<n)(hj:jd<n):B9 n (us H id jd at_ l')=true:=by
 have h0:=A78 hb ho;have h1:blw n at_=true:=by grind[Ab]
 have h2:Nat.blt id n=true:=by simp_all
 have h3:Nat.blt jd n=true:=by simp_all
 refine Xv (Xv hb<|blwH_u8 _) ?_;simp_all[B9,Ab,blw]
theorem wbU (hg:hGr W0 G){H:Hz}{id jd:Nat}{at_:AVal}{l:Bz}{b:UInt8}(hb:B9 H.length H=true)(ho:H[id]?=some (.cells 108 [.ptr id 0,.hsl 1 jd 0 l.length none,at_] false))(hj:H[jd]?=some (.cells 5 (u8c l) true))(hl:l.length≤1000000):cP W0 88 [.ptr id 0,.int .u8 (b.toNat:Nat)] H .nilIf (us H id jd at_<|l++[b]):=by
 have hjl:=gLt hj;have hij:jd≠id:=λe=>by grind
 have ho2:(H.set jd (.cells 5 (u8c<|l++[b]) true)++[.cells 5 [.int .u8 (b.toNat:Nat)] false])[id]?=some (.cells 108 [.ptr id 0,.hsl 1 jd 0 l.length none,at_] false):=gA<|gSt hij ho;refine goM 88 17 ?_;refine sO<|x1 Z<|sO<|mV Z<|mC Z (A9p ho)<|mn<|sO<|m2 Z Z<|mV (v:=.ptr id 0) (Ig Z ho)<|mV (v:=.ptr id 1) (Gk Z ho)<|mV (v:=.hsl 1 jd 0 l.length none) (Na Z ho Z)<|mV Z<|mV (v:=.hsl 1 H.length 0 1<|some 1) Z<|Ac hg gN (v:=.hsl 1 jd 0 (l++[b]).length none) (oAppB Z Z (gA hj) gL<|A0a hjl) Z Ad5<|mV (v:=.ptr id 0) (Ig Z ho2)<|mV (v:=.ptr id 1) (Gk Z ho2)<|Ah hg gN (Jy Z Z ho2 Z<|A0a (by grind))<|mn<|sO<|x1 Z ?_;refine ExM.ret ?_;refine A4 (n:=H.length) O Z ?_ 100 Z ?_;·show B9 H.length (List.take H.length<|us H id jd at_ (l++[b])++[_])=true;grind[Vi,Tv]
 ·exact Vi
theorem A62 {H:Hz}{id jd:Nat}{a:AVal}{l k:Bz}(h:id≠jd):us (us H id jd a l) id jd a k=us H id jd a k:=by simp_all[us,List.set_comm]
theorem Vq {H:Hz}{id jd:Nat}{a:AVal}{l:Bz}(ho:H[id]?=some (.cells 108 [.ptr id 0,.hsl 1 jd 0 l.length none,a] false))(hj:H[jd]?=some (.cells 5 (u8c l) true)):us H id jd a l=H:=by grind[us,S4]
theorem Nb {H:Hz}{id jd:Nat}{a:AVal}{l:Bz}(h:id<H.length):(us H id jd a l)[id]?=some (.cells 108 [.ptr id 0,.hsl 1 jd 0 l.length none,a] false):=by grind[us]
theorem A6r {H:Hz}{id jd:Nat}{a:AVal}{l:Bz}(h:jd<H.length)(hne:id≠jd):(us H id jd a l)[jd]?=some (.cells 5 (u8c l) true):=by grind[us]
theorem A63 {H:Hz}{id jd i:Nat}{a:AVal}{l:Bz}{o:HObj}(h1:id≠i)(h2:jd≠i)(h:H[i]?=some o):(us H id jd a l)[i]?=some o:=by grind[us]
theorem A4m {H X:Hz}{id jd:Nat}{a:AVal}{l:Bz}(h1:id<H.length)(h2:jd<H.length):us (H++X) id jd a l=us H id jd a l++X:=by grind[us]
theorem A7e :liesAt Tryz.prog Tryz.prog.depth 108 1 0 106 1=true:=Am
theorem A20 :Tryz.prog.cellsOf 108=3:=Am
def fw (H:Hz)(id:Nat)(at_:AVal)(b:UInt8):Hz:=H.set id (.cells 108 [.ptr id 0,.hsl 1 (H.length+1) 0 1 none,at_] false)++[.cells 5 [.int .u8 (b.toNat:Nat)] false,.cells 5 (u8c [b]) true]
theorem wsU (hg:hGr W0 G){H:Hz}{id jd:Nat}{at_:AVal}{l:Bz}{k:Bz}(hk0:k≠[])(ho:H[id]?=some (.cells 108 [.ptr id 0,.hsl 1 jd 0 l.length none,at_] false))(hj:H[jd]?=some (.cells 5 (u8c l) true))(hl:l.length+k.length≤1000000):cP W0 46 [.ptr id 0,.str k] H (.tup [.int .i64 k.length,.nilIf]) (us H id jd at_<|l++k):=by
 have hij:jd≠id:=λe=>by grind
 have ho2:(H.set jd<|.cells 5 (u8c<|l++k) true)[id]?=some (.cells 108 [.ptr id 0,.hsl 1 jd 0 l.length none,at_] false):=gSt hij ho;refine goM 46 19 ?_;refine sO<|x2 Z Z<|sO<|mV Z<|mC Z (A9p ho)<|mn<|sO<|m2 Z Z<|mV (v:=.ptr id 0) (Ig Z ho)<|mV (v:=.ptr id 1) (Gk Z ho)<|mV (v:=.hsl 1 jd 0 l.length none) (Na Z ho Z)<|mV Z<|Ac hg gN (v:=.hsl 1 jd 0 (l++k).length none) (oAppS Z Z hk0 hj Z) Z Ad5<|mV (v:=.ptr id 0) (Ig Z ho2)<|mV (v:=.ptr id 1) (Gk Z ho2)<|Ah hg gN (Jy Z Z ho2 Z Z)<|mn<|sO<|x4 Z Z Z Z ?_;exact ExM.ret<|pS
theorem wsF (hg:hGr W0 G){H:Hz}{id:Nat}{at_:AVal}{k:Bz}(hk0:k≠[])(ho:H[id]?=some (.cells 108 [.nilPtr,.nilSl,at_] false))(hl:k.length≤1000000):cP W0 46 [.ptr id 0,.str k] H (.tup [.int .i64 k.length,.nilIf]) (H.set id (.cells 108 [.ptr id 0,.hsl 1 H.length 0 k.length none,at_] false)++[.cells 5 (u8c k) true]):=by
 have hid:=gLt ho;have ho1:(H.set id<|.cells 108 [.ptr id 0,.nilSl,at_] false)[id]?=some (.cells 108 [.ptr id 0,.nilSl,at_] false):=gT hid;have hlen:(H.set id<|.cells 108 [.ptr id 0,.nilSl,at_] false).length=H.length:=List.length_set;have ho2:(H.set id (.cells 108 [.ptr id 0,.nilSl,at_] false)++[HObj.cells 5 (u8c k) true])[id]?=some (.cells 108 [.ptr id 0,.nilSl,at_] false):=gA ho1;have hH:(H.set id (.cells 108 [.ptr id 0,.nilSl,at_] false)++[HObj.cells 5 (u8c k) true]).set id (.cells 108 [.ptr id 0,.hsl 1 H.length 0 k.length none,at_] false)=H.set id (.cells 108 [.ptr id 0,.hsl 1 H.length 0 k.length none,at_] false)++[.cells 5 (u8c k) true]:=by simp_all
 refine goM 46 19 ?_;refine sO<|x2 Z Z<|sO<|mV Z<|mC Z (ccPT ho A20 A7e)<|mn<|sO<|m2 Z Z<|mV (v:=.ptr id 0) (Ig Z ho1)<|mV (v:=.ptr id 1) (Gk Z ho1)<|mV (v:=.nilSl) (Na Z ho1 Z)<|mV Z<|Ac hg gN (v:=.hsl 1 H.length 0 k.length none) (by rw[←hlen];exact oAppS0 rfl rfl hk0) Z Ad5<|mV (v:=.ptr id 0) (Ig Z ho2)<|mV (v:=.ptr id 1) (Gk Z ho2)<|Ah hg gN (Jy Z Z ho2 Z Z)<|mn<|sO<|x4 Z Z Z Z ?_;exact ExM.ret<|A6 O Z Z hH
theorem wbF (hg:hGr W0 G){H:Hz}{id:Nat}{at_:AVal}{b:UInt8}(ho:H[id]?=some (.cells 108 [.nilPtr,.nilSl,at_] false)):cP W0 88 [.ptr id 0,.int .u8 (b.toNat:Nat)] H .nilIf (fw H id at_ b):=by
 have hid:=gLt ho;have ho1:(H.set id<|.cells 108 [.ptr id 0,.nilSl,at_] false)[id]?=some (.cells 108 [.ptr id 0,.nilSl,at_] false):=gT hid;have hlen:(H.set id<|.cells 108 [.ptr id 0,.nilSl,at_] false).length=H.length:=List.length_set;have hlen2:(H.set id (.cells 108 [.ptr id 0,.nilSl,at_] false)++[HObj.cells 5 [.int .u8 (b.toNat:Nat)] false]).length=H.length+1:=by grind
 have hv:(H.set id (.cells 108 [.ptr id 0,.nilSl,at_] false)++[HObj.cells 5 [.int .u8 (b.toNat:Nat)] false])[H.length]?=some (HObj.cells 5 [.int .u8 (b.toNat:Nat)] false):=by grind
 have ho2:((H.set id (.cells 108 [.ptr id 0,.nilSl,at_] false)++[HObj.cells 5 [.int .u8 (b.toNat:Nat)] false])++[HObj.cells 5 (u8c [b]) true])[id]?=some (.cells 108 [.ptr id 0,.nilSl,at_] false):=gA<|gA ho1;have hH:((H.set id (.cells 108 [.ptr id 0,.nilSl,at_] false)++[HObj.cells 5 [.int .u8 (b.toNat:Nat)] false])++[HObj.cells 5 (u8c [b]) true]).set id (.cells 108 [.ptr id 0,.hsl 1 (H.length+1) 0 1 none,at_] false)=fw H id at_ b:=by rw[List.append_assoc,A0a Y,List.set_set];rfl
 refine goM 88 17 ?_;refine sO<|x1 Z<|sO<|mV Z<|mC Z (ccPT ho A20 A7e)<|mn<|sO<|m2 Z Z<|mV (v:=.ptr id 0) (Ig Z ho1)<|mV (v:=.ptr id 1) (Gk Z ho1)<|mV (v:=.nilSl) (Na Z ho1 Z)<|mV Z<|mK (v:=.hsl 1 H.length 0 1<|some 1) Z (congrArg (λn=>AVal.hsl 1 n 0 1<|some 1) hlen)<|Ac hg gN (v:=.hsl 1 (H.length+1) 0 1 none) (by rw[←hlen2];exact oAppB0 rfl rfl hv) Z (by simp_all[Ag,C6])<|mV (v:=.ptr id 0) (Ig Z ho2)<|mV (v:=.ptr id 1) (Gk Z ho2)<|Ah hg gN (Jy Z Z ho2 Z Z)<|mn<|sO<|x1 Z ?_;exact ExM.ret<|A6 O Z Z hH
theorem lenU (hg:hGr W0 G){H:Hz}{id jd:Nat}{at_:AVal}{l:Bz}(ho:H[id]?=some (.cells 108 [.ptr id 0,.hsl 1 jd 0 l.length none,at_] false)):cP W0 54 [.ptr id 0] H (.int .i64 (l.length:Nat)) H:=by refine goM 54 8 ?_;refine sO<|x1 Z<|sO<|mV Z<|mV (v:=.ptr id 0) (Ig Z ho)<|mV (v:=.ptr id 1) (Gk Z ho)<|mV (v:=.hsl 1 jd 0 l.length none) (Na Z ho Z)<|x2 Z Z ?_;exact ExM.ret<|pS
theorem A50 {w:Nat}{ns:List Nat}{i:Nat}(h:i<ns.length):E1 w (ns.take<|i+1)=E1 w (ns.take i)++Ae w (ns.getD i 0):=by grind[List.take_succ_eq_append_getElem,E1]
theorem Xz (w:Nat)(ns:List Nat){i:Nat}(h:i≤ns.length):(E1 w<|ns.take i).length=i*w:=by rw[H8,List.length_take,Nat.min_eq_left h]
theorem Ac7 (hg:hGr W0 G){H:Hz}{id jd sd w:Nat}{at_:AVal}{l:Bz}{ns:List Nat}{cp:Option Nat}(hb:B9 H.length H=true)(ho:H[id]?=some (.cells 108 [.ptr id 0,.hsl 1 jd 0 l.length none,at_] false))(hj:H[jd]?=some (.cells 5 (u8c l) true))(hs:H[sd]?=some (.cells 3 (Bf ns) false))(hw:w≤8)(hnl:ns.length≤1000000)(hl:l.length+ns.length*w≤1000000)(hn:∀i,ns.getD i 0<9223372036854775808):cP W0 53 [.ptr id 0,.int .i64 ((w:Nat):Int),.hsl 1 sd 0 ns.length cp] H (.tup []) (us H id jd at_<|l++E1 w ns):=by
 have hid:=gLt ho;have hjd:=gLt hj;have hne:id≠jd:=λe=>by grind
 have hsi:id≠sd:=λe=>by grind
 have hsj:jd≠sd:=λe=>by grind
 have hsU:∀{k:Bz},(us H id jd at_ k)[sd]?=some (.cells 3 (Bf ns) false):=λ{k}=>A63 hsi hsj hs;have hbU:∀k,B9 (us H id jd at_ k).length (us H id jd at_ k)=true:=λk=>by grind[Gq,Tv]
 refine goM 53 31 ?_;refine sO<|x3 Z Z Z<|bM ?_;refine ExM.loopJ (σ:=Nat) (τ:=Unit) (λi=>⟨.al [(0,.ptr id 0),(1,.int .i64 ((w:Nat):Int)),(9,.hsl 1 sd 0 ns.length cp),(10,.int .i64 ((ns.length:Nat):Int)),(11,.int .i64 ((i:Nat):Int))],us H id jd at_<|l++E1 w (ns.take i),31⟩) (λi=>i≤ns.length) (λi=>ns.length-i) 0 0 (λ_=>⟨.al [],us H id jd at_<|l++E1 w ns,31⟩) (λ_=>True) (An Z (by rw[List.take_zero];show us H id jd at_ (l++[])=H;grind[Vq])<|sb4 Z Z Z Z<|(((sbC Z<|sbN)))) (Nat.zero_le _) ?_ ?_
 ·rintro i hi;have hi:i≤ns.length:=hi;refine sO ?_;by_cases hlt:i<ns.length
  ·have hmul:(i+1)*w≤ns.length*w:=Nat.mul_le_mul_right _ hlt;rw[Nat.add_mul,Nat.one_mul]at hmul;refine mT Z<|mn<|sq<|cT Z<|kM<|sq<|bM<|sO<|mS (v:=.ptr sd i) (A92 Z Z hsU)<|mV (v:=.int .i64 ((ns.getD i 0:Nat):Int)) (A4f Z hsU hlt)<|x1 Z<|sO<|mV Z<|mK (v:=.int .i64<|((w:Nat):Int)-1) Z (Bj Y Y Z)<|x1 Z<|bM ?_;refine ExM.loopJ (σ:=Nat×Bz) (τ:=Unit) (λ⟨r,a⟩=>⟨.al [(0,.ptr id 0),(1,.int .i64 ((w:Nat):Int)),(7,.int .i64 ((ns.getD i 0:Nat):Int)),(9,.hsl 1 sd 0 ns.length cp),(10,.int .i64 ((ns.length:Nat):Int)),(11,.int .i64 ((i:Nat):Int)),(8,.int .i64<|((r:Nat):Int)-1)],us H id jd at_<|l++E1 w (ns.take i)++a,31⟩) (λ⟨r,a⟩=>r≤w∧a++Ae r (ns.getD i 0)=Ae w (ns.getD i 0)) (λ⟨r,a⟩=>r) ⟨w,[]⟩ 2 (λ_=>⟨.al [(0,.ptr id 0),(1,.int .i64 ((w:Nat):Int)),(7,.int .i64 ((ns.getD i 0:Nat):Int)),(9,.hsl 1 sd 0 ns.length cp),(10,.int .i64 ((ns.length:Nat):Int)),(11,.int .i64 ((i:Nat):Int))],us H id jd at_<|l++E1 w (ns.take i)++Ae w (ns.getD i 0),31⟩) (λ_=>True) (An Z (by grind)<|sb4 Z Z Z Z<|(((sbC Z<|sbC Z<|sbC Z<|sbN)))) ⟨Nat.le_refl _,Z⟩ ?_ ?_
   ·rintro⟨r,a⟩ ⟨hr,ha⟩;have ha:a++Ae r (ns.getD i 0)=Ae w (ns.getD i 0):=ha;have hr:r≤w:=hr;cases r with
    |zero=>refine sq<|sO<|mV Z<|mF Z<|mn<|cF Z<|ExM.exit ?_;exact .inl ⟨Z,(),O,An Z (by grind[Ae])<|sb4 Z Z Z Z<|(((sbC Z<|sbC Z<|sbN)))⟩
    |succ j=>
     have hal:a.length+(j+1)=w:=by have:=congrArg List.length ha;grind[Ao]
     have hn0:=hn i;have hlt:(l++E1 w (ns.take i)++a).length≤1000000:=by grind[Xz]
     refine sq<|sO<|mV Z<|mT Z<|mn<|cT Z<|kM<|sq<|bM ?_;refine ExM.drawL hg ?_;refine Ak (v:=.ptr id 0) Z Z O<|Ak (v:=.ptr id 0) (Ig Z<|Nb hid) Z O<|Ak (v:=.ptr id 0) (Gk Z<|Nb hid) Z O<|Ak (v:=.int .i64 ((ns.getD i 0:Nat):Int)) Z Z O<|qKv (v:=.int .i64 ((j:Nat):Int)) Z Z O (iE Y)<|qKv (v:=.int .i64 ((8*j:Nat):Int)) Z Z O (Bj Y Y Y)<|Ak Z Z Ld<|qKv (v:=.int .u8 ((UInt8.ofNat<|ns.getD i 0/256^j).toNat:Nat)) Z Z O (A6m Y)<|Dl<|?_;refine A70 Z Z (by have h:=wbU (b:=UInt8.ofNat<|ns.getD i 0/256^j) hg (hbU<|l++E1 w (ns.take i)++a) (Nb hid) (A6r hjd hne) hlt;rw[A62 hne]at h;exact h) ?_;refine oM<|mK (v:=.int .i64 ((j:Nat):Int)) Z (iE Y)<|mK (v:=.int .i64<|((j:Nat):Int)-1) Z (Bj Y Y Z)<|x1 Z ?_;exact⟨⟨j,a++[UInt8.ofNat<|ns.getD i 0/256^j]⟩,⟨Y,by grind[Ae]⟩,by grind,An rfl (by grind)<|sb4 Z Z Z Z<|(((sbC Z<|sbC Z<|sbC Z<|sbN)))⟩
   ·rintro _ s' hJ hs;refine ExM.sub hs ?_;refine oM<|mI ((i+1:Nat):Int) Z<|x1 Z ?_;exact⟨(i+1),(Y:i+1≤ns.length),Y,An Z (by rw[A50 hlt,List.append_assoc])<|sb4 Z Z Z Z<|(((sbC Z<|sbN)))⟩
  ·have he:i=ns.length:=by omega
   refine mF Z<|mn<|sq<|cF Z<|ExM.exit ?_;grind[An,sbN]
 ·rintro _ s' hJ hs;exact(A6 (rs:=[]) (vs:=[]) O Z Z hs.H.symm:Iy [] H.length (.tup []) (us H id jd at_<|l++E1 w ns) .normal s')
theorem A1t (l:List Bz):(C5 l).length=l.length:=by simp[C5]
theorem oLoadS {s:St}{x:AOpd}{id n T:Nat}{l:List Bz}(hx:ev G s x=some (.ptr id n))(ho:s.H[id]?=some (.cells T (C5 l) false))(hn:n<l.length):aop G s (.load 1 false x)=some (.val (.str<|l.getD n []) s.H []):=
 Na hx ho (by
  have hlt:n<(C5 l).length:=by rw[A1t];exact hn
  rw[Bt,List.drop_eq_getElem_cons hlt];simp only[C5,List.getElem_map,List.getD_eq_getElem?_getD,gGe hn,Option.getD_some]
  rfl)
def pf (H:Hz)(id:Nat)(at_:AVal)(b:UInt8)(l:Bz):Hz:=H.set id (.cells 108 [.ptr id 0,.hsl 1 (H.length+1) 0 l.length none,at_] false)++[.cells 5 [.int .u8 (b.toNat:Nat)] false,.cells 5 (u8c l) true]
section
variable {H : Hz} {id : Nat} {at_ : AVal} {b : UInt8} {l k : Bz}
theorem pf_len :(pf H id at_ b l).length=H.length+2:=by simp[pf]
theorem A98 (h:id<H.length):(pf H id at_ b l)[id]?=some (.cells 108 [.ptr id 0,.hsl 1 (H.length+1) 0 l.length none,at_] false):=gA<|gT h
theorem pf_jd :(pf H id at_ b l)[H.length+1]?=some (.cells 5 (u8c l) true):=by have h:=gL2 (H:=H.set id<|.cells 108 [.ptr id 0,.hsl 1 (H.length+1) 0 l.length none,at_] false) (o:=.cells 5 [.int .u8 (b.toNat:Nat)] false) (x:=.cells 5 (u8c l) true);rw[List.length_set]at h;exact h
theorem pf_us (h:id<H.length):us (pf H id at_ b l) id (H.length+1) at_ k=pf H id at_ b k:=by unfold us pf;simp_all
theorem pf_blw {T:TypeId}{c0 c1:AVal}(hb:B9 H.length H=true)(ho:H[id]?=some (.cells T [c0,c1,at_] false)):B9 (H.length+2) (pf H id at_ b l)=true:=by
 have hid:=gLt ho;have h0:=A78 hb ho;have h1:blw H.length at_=true:=by grind[Ab]
 have h1':=Ry (Nat.le_add_right H.length 2) _ h1;refine F9 (Xv (Ih (Nat.le_add_right _ 2) hb) ?_) ?_
 ·have h2:Nat.blt id (H.length+2)=true:=by rw[Nat.blt_eq];omega
  simp_all[B9,Ab,blw]
 ·simp only[B9,Ab,blw,cond_true,C4]
end
theorem A3f (hg:hGr W0 G){H:Hz}{id sd n:Nat}{at_:AVal}{cp:Option Nat}(hb:B9 H.length H=true)(ho:H[id]?=some (.cells 108 [.nilPtr,.nilSl,at_] false))(hs:H[sd]?=some (.cells 3 (Bf [n]) false))(hn:n<9223372036854775808):cP W0 53 [.ptr id 0,.int .i64 1,.hsl 1 sd 0 1 cp] H (.tup []) (pf H id at_ (UInt8.ofNat<|n/256^0)<|Ae 1 n):=by have hid:=gLt ho;refine goM 53 31 ?_;refine sO<|x3 Z Z Z<|bM ?_;refine ExM.unroll 2 ?_;refine Mc.step ?_;refine sO<|mT Z<|mn<|sq<|cT Z<|kM<|sq<|bM<|sO<|mS (v:=.ptr sd 0) (A92 Z Z hs)<|mV (v:=.int .i64 ((n:Nat):Int)) (A4f (l:=[n]) (n:=0) Z hs<|Nat.zero_lt_one)<|x1 Z<|sO<|mV Z<|mK (v:=.int .i64 0) Z Z<|x1 Z<|bM ?_;refine ExM.unroll 2 ?_;refine Mc.step ?_;refine sq<|sO<|mV Z<|mT Z<|mn<|cT Z<|kM<|sq<|bM ?_;refine ExM.drawL hg ?_;refine qV Z<|Ak (v:=.ptr id 0) (Ig Z ho) Z O<|Ak (v:=.ptr id 0) (Gk Z ho) Z O<|qV Z<|qV Z<|qKv (v:=.int .i64 ((8*0:Nat):Int)) Z Z O Z<|Ak Z Z (by simp_all[Ag])<|qKv (v:=.int .u8 ((UInt8.ofNat<|n/256^0).toNat:Nat)) Z Z O (A6m V)<|Dl<|?_;refine A70 Z Z (show cP W0 88 [.ptr id 0,.int .u8 ((UInt8.ofNat<|n/256^0).toNat:Nat)] H .nilIf (pf H id at_ (UInt8.ofNat<|n/256^0) [(UInt8.ofNat<|n/256^0)])from wbF hg ho) ?_;refine oM<|mV Z<|mK (v:=.int .i64<|0-1) Z Z<|x1 Z ?_;refine Mc.step ?_;refine sq<|sO<|mV Z<|mF Z<|mn<|cF Z ?_;refine ExM.exit ?_;refine oM<|mKs (v:=.int .i64 1) Z Z<|x1 Z ?_;refine Mc.step ?_;refine sO<|mF Z<|mn<|sq<|cF Z ?_;exact ExM.exit ⟨O,[],Z,.inl ⟨Z,Z⟩⟩
theorem putF2 (hg:hGr W0 G){H:Hz}{id sd n:Nat}{at_:AVal}{cp:Option Nat}(hb:B9 H.length H=true)(ho:H[id]?=some (.cells 108 [.nilPtr,.nilSl,at_] false))(hs:H[sd]?=some (.cells 3 (Bf [n]) false))(hn:n<9223372036854775808):cP W0 53 [.ptr id 0,.int .i64 2,.hsl 1 sd 0 1 cp] H (.tup []) (pf H id at_ (UInt8.ofNat<|n/256^1)<|Ae 2 n):=by have hid:=gLt ho;refine goM 53 31 ?_;refine sO<|x3 Z Z Z<|bM ?_;refine ExM.unroll 2 ?_;refine Mc.step ?_;refine sO<|mT Z<|mn<|sq<|cT Z<|kM<|sq<|bM<|sO<|mS (v:=.ptr sd 0) (A92 Z Z hs)<|mV (v:=.int .i64 ((n:Nat):Int)) (A4f (l:=[n]) (n:=0) Z hs<|Nat.zero_lt_one)<|x1 Z<|sO<|mV Z<|mK (v:=.int .i64 1) Z Z<|x1 Z<|bM ?_;refine ExM.unroll 3 ?_;refine Mc.step ?_;refine sq<|sO<|mV Z<|mT Z<|mn<|cT Z<|kM<|sq<|bM ?_;refine ExM.drawL hg ?_;refine qV Z<|Ak (v:=.ptr id 0) (Ig Z ho) Z O<|Ak (v:=.ptr id 0) (Gk Z ho) Z O<|qV Z<|qV Z<|qKv (v:=.int .i64 ((8*1:Nat):Int)) Z Z O Z<|Ak Z Z (by simp_all[Ag])<|qKv (v:=.int .u8 ((UInt8.ofNat<|n/256^1).toNat:Nat)) Z Z O (A6m V)<|Dl<|?_;refine A70 Z Z (show cP W0 88 [.ptr id 0,.int .u8 ((UInt8.ofNat<|n/256^1).toNat:Nat)] H .nilIf (pf H id at_ (UInt8.ofNat<|n/256^1) [(UInt8.ofNat<|n/256^1)])from wbF hg ho) ?_;refine oM<|mV Z<|mK (v:=.int .i64<|1-1) Z Z<|x1 Z ?_;refine Mc.step ?_;refine sq<|sO<|mV Z<|mT Z<|mn<|cT Z<|kM<|sq<|bM ?_;refine ExM.drawL hg ?_;refine qV Z<|Ak (v:=.ptr id 0) (Ig Z<|A98 hid) Z O<|Ak (v:=.ptr id 0) (Gk Z<|A98 hid) Z O<|qV Z<|qV Z<|qKv (v:=.int .i64 ((8*0:Nat):Int)) Z Z O Z<|Ak Z Z (by simp_all[Ag])<|qKv (v:=.int .u8 ((UInt8.ofNat<|n/256^0).toNat:Nat)) Z Z O (A6m V)<|Dl<|?_;refine A70 Z Z (by have h:=wbU (b:=(UInt8.ofNat<|n/256^0)) (l:=[(UInt8.ofNat<|n/256^1)]) (jd:=H.length+1) (H:=pf H id at_ (UInt8.ofNat<|n/256^1) [(UInt8.ofNat<|n/256^1)]) hg (by grind[pf_len,pf_blw]) (A98 hid) pf_jd Ax;rw[pf_us hid]at h;exact h) ?_;refine oM<|mV Z<|mK (v:=.int .i64<|0-1) Z Z<|x1 Z ?_;refine Mc.step ?_;refine sq<|sO<|mV Z<|mF Z<|mn<|cF Z ?_;refine ExM.exit ?_;refine oM<|mKs (v:=.int .i64 1) Z Z<|x1 Z ?_;refine Mc.step ?_;refine sO<|mF Z<|mn<|sq<|cF Z ?_;exact ExM.exit ⟨O,[],Z,.inl ⟨Z,Z⟩⟩
def txB (ix:Bz→Nat)(ss:List Bz):Bz:=ss.flatMap λs=>Ae 2<|ix s
theorem A1p {ix:Bz→Nat}{ss:List Bz}{i:Nat}(h:i<ss.length):txB ix (ss.take<|i+1)=txB ix (ss.take i)++Ae 2 (ix<|ss.getD i []):=by grind[List.take_succ_eq_append_getElem,txB]
theorem Ja (ix:Bz→Nat):∀(ss:List Bz),(txB ix ss).length=ss.length*2
 | []=>rfl|s::r=>by have:=Ja ix r;grind[txB,Ao]
theorem Ph (w n:Nat):E1 w [n]=Ae w n:=by simp[E1]
theorem A1z {s:St}{m k:AOpd}{md:Nat}{es:List (Bz×Int)}{q:Bz}{x:Nat}(hm:ev G s m=some (.mref md))(hk:ev G s k=some (.str q))(ho:s.H[md]?=some (.mp es))(h:It es q=(x:Nat)):aop G s (.mapGet m k)=some (.val (.int .i64 ((x:Nat):Int)) s.H []):=by grind[oMapGet]
theorem textU (hg:hGr W0 G){H:Hz}{id jd sd md:Nat}{l:Bz}{ss:List Bz}{cp:Option Nat}{es:List (Bz×Int)}{ix:Bz→Nat}(hb:B9 H.length H=true)(ho:H[id]?=some (.cells 108 [.ptr id 0,.hsl 1 jd 0 l.length none,.mref md] false))(hj:H[jd]?=some (.cells 5 (u8c l) true))(hs:H[sd]?=some (.cells 9 (C5 ss) false))(hm:H[md]?=some (.mp es))(hl:l.length+ss.length*2≤1000000)(hix:∀i,i<ss.length→It es (ss.getD i [])=(ix (ss.getD i []):Nat))(hixb:∀s,ix s<9223372036854775808):cP W0 87 [.ptr id 0,.hsl 1 sd 0 ss.length cp] H (.tup []) (us H id jd (.mref md)<|l++txB ix ss):=by
 have hid:=gLt ho;have hjd:=gLt hj;have hsd:=gLt hs;have hne:id≠jd:=λe=>by grind
 have hsi:id≠sd:=λe=>by grind
 have hsj:jd≠sd:=λe=>by grind
 have hmi:id≠md:=λe=>by grind
 have hmj:jd≠md:=λe=>by grind
 have hsU:∀{k:Bz},(us H id jd (.mref md) k)[sd]?=some (.cells 9 (C5 ss) false):=λ{k}=>A63 hsi hsj hs;have hmU:∀{k:Bz},(us H id jd (.mref md) k)[md]?=some (.mp es):=λ{k}=>A63 hmi hmj hm;have hbA:∀{k:Bz}{n:Nat},B9 (us H id jd (.mref md) k++[HObj.cells 3 (Bf [n]) false]).length (us H id jd (.mref md) k++[HObj.cells 3 (Bf [n]) false])=true:=λ{k n}=>by rw[lAp,Gq];exact F9 (Ih (Nat.le_add_right _ _)<|Tv hb ho hid hjd) Z
 refine goM 87 22 ?_;refine sO<|x3 Z Z Z<|bM ?_;refine ExM.loopJ (σ:=Nat) (τ:=Unit) (λi=>⟨.al [(0,.ptr id 0),(6,.hsl 1 sd 0 ss.length cp),(7,.int .i64 ((ss.length:Nat):Int)),(8,.int .i64 ((i:Nat):Int))],us H id jd (.mref md)<|l++txB ix (ss.take i),22⟩) (λi=>i≤ss.length) (λi=>ss.length-i) 0 0 (λ_=>⟨.al [],us H id jd (.mref md)<|l++txB ix ss,22⟩) (λ_=>True) (An Z (by rw[List.take_zero];show us H id jd (.mref md) (l++[])=H;grind[Vq])<|sb4 Z Z Z Z<|(((sbN)))) (Nat.zero_le _) ?_ ?_
 ·rintro i hi;have hi:i≤ss.length:=hi;by_cases hlt:i<ss.length
  ·have hbl:(l++txB ix (ss.take i)).length+1*2≤1000000:=by rw[lAp,Ja,List.length_take];omega
   refine sO<|mT Z<|mn<|sq<|cT Z<|kM<|sq<|bM<|sO<|mS (v:=.ptr sd i) (A92 Z Z hsU)<|mV (v:=.str<|ss.getD i []) (oLoadS Z hsU hlt)<|x1 Z<|oM<|m2 Z Z<|mV (v:=.ptr id 0) (Ig Z<|Nb hid)<|mV (v:=.ptr id 2) (Gk Z<|Nb hid)<|mV (v:=.mref md) (Na Z (Nb hid) Z)<|mV Z<|mV (v:=.int .i64 ((ix (ss.getD i []):Nat):Int)) (A1z Z Z hmU<|hix i hlt)<|mK (v:=.hsl 1 H.length 0 [ix<|ss.getD i []].length<|some 1) Z (congrArg (λn=>AVal.hsl 1 n 0 1<|some 1) Gq)<|mC Z (by have h:=Ac7 (H:=us H id jd (.mref md) (l++txB ix (ss.take i))++[.cells 3 (Bf [ix<|ss.getD i []]) false]) (sd:=H.length) (ns:=[ix<|ss.getD i []]) (w:=2) (cp:=some 1) hg hbA (gA<|Nb hid) (gA<|A6r hjd hne) (by grind[Gq]) V Ax hbl (λj=>by grind);rw[A4m (by grind[Gq]) (by grind[Gq]),A62 hne,Ph]at h;exact h)<|mn<|oM ?_;refine mFz (s1:=⟨.al [(0,.ptr id 0),(6,.hsl 1 sd 0 ss.length cp),(7,.int .i64 ((ss.length:Nat):Int)),(8,.int .i64 ((i:Nat):Int))],us H id jd (.mref md)<|l++txB ix (ss.take i)++Ae 2 (ix<|ss.getD i []),22⟩) (Aq H.length Z (Nat.le_refl _) Vi (Tv hb ho hid hjd)<|fzC Z (Jc hid)<|fzC Z (fvHx hsd)<|fI<|fI fzN) ?_;refine mI ((i+1:Nat):Int) Z<|x1 Z ?_;exact⟨(i+1),(Y:i+1≤ss.length),Y,An Z (by rw[A1p hlt,List.append_assoc])<|sb4 Z Z Z Z<|(((sbN)))⟩
  ·have he:i=ss.length:=by omega
   refine sO<|mF Z<|mn<|sq<|cF Z<|ExM.exit ?_;grind[An,sbN]
 ·rintro _ s' hJ hs;exact(A6 (rs:=[]) (vs:=[]) O Z Z hs.H.symm:Iy [] H.length (.tup []) (us H id jd (.mref md)<|l++txB ix ss) .normal s')
end Go.Abs
