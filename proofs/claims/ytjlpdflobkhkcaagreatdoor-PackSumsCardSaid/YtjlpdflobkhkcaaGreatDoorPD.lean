/- A part of the proof that tabula/tabulalaw25.PackSums returns true for every input, each argument reading as it did (its card: the last text). No conditions of its own. -/
import Derived.Test.YtjlpdflobkhkcaaGreatDoorPC
import Derived.Shelf.Strings.MapGrows
import Derived.Shelf.Unicode.DecodeSlow
import Derived.Lib.Join
import Derived.Sort.Grow
import Derived.Defers
import Derived.Lib.ValidU
import Derived.Lib.TrimU
set_option linter.unusedVariables false
set_option linter.unusedSimpArgs false
namespace Go.Abs
open Go.RowKit
section
variable {P : Program} {W0 : World} {G : List (Nat × AVal)} {ops : Array Oper}
theorem Sv {s:St}{sp:SP}(hok:J1 P ops sp=true){l:List Tr}{M':HMap}{ef:Env}{Hfin:Hz}(s2:l.length=ops.size)(s3:envOf l ef 0=s.env)(h0:lkH 0 M'=some s.H)
 (hget:∀(j:Nat) (o:Oper),ops[j]?=some o→∃t,l[j]?=some t∧Eq o.dst s.n=true∧envOf l ef (j+1)=G3 o.dst t.v t.env)
 (hquiet:∀(j:Nat) (o:Oper) (t:Tr),ops[j]?=some o→l[j]?=some t→Do P o≤1→∀σ∈sp.states,sp.mayB σ j=true→∃H2,lkH σ M'=some H2∧Et P W0 G ops o ⟨t.env,H2,s.n⟩ λv' H'=>v'=t.v∧H'=H2)
 (hloud:∀σ∈sp.states,∀j∈sp.steps σ,∃o t H2 H2',ops[j]?=some o∧l[j]?=some t∧lkH σ M'=some H2∧(Et P W0 G ops o ⟨t.env,H2,s.n⟩ λv' H'=>v'=t.v∧H'=H2')∧lkH (SP.nxt σ j) M'=some H2')
 (hfin:lkH sp.fin M'=some Hfin):
 ∃p:Plan,Kv P W0 G ops s p∧(⟨ef,Hfin,s.n⟩:St)=⟨p.env ops.size,p.Hs p.fin,s.n⟩:=by
 simp only[J1,bAt]at hok;obtain⟨⟨⟨⟨k1,k2⟩,k3⟩,k4⟩,k5⟩:=hok;have hN:sp.n=ops.size:=nBq k1;have hat:∀(j:Nat) (o:Oper),ops[j]?=some o→Tn P ops sp j o=true:=by grind
 have hat1:∀(j:Nat) (o:Oper),ops[j]?=some o→(∀e∈o.after,Region.binds .any e=true→e.on<j)∧sp.mask.getD j 0=O0 sp.mask o∧sp.kind.getD j 0=Do P o∧
  ∀(i:Nat) (oi:Oper) (d:Nat),ops[i]?=some oi→oi.dst=some d→(i=j∨o.dst≠some d)∧(d∈reads P ops o→sp.msk j i=true∨sp.msk i j=true):=by
  intro j o ho;have:=hat j o ho;simp only[Tn,bAt]at this;obtain⟨⟨⟨a1,a2⟩,a3⟩,a4⟩:=this;refine⟨λe he hb=>?_,nBq a2,nBq a3,λi oi d hi hd=>?_⟩;·have:=List.all_eq_true.1 a1 e (by grind);simp_all
  ·have:=List.all_eq_true.1 a4 i<|List.mem_range.2 (by grind);rw[hi]at this;simp only[Option.bind_some,hd,bAt,Bool.or_eq_true]at this;obtain⟨b1,b2⟩:=this;refine⟨?_,λhr=>?_⟩
   ·rcases b1 with b1|b1;·simp_all
    ·refine .inr λhod=>?_;simp_all[A2v]
   ·have:=List.all_eq_true.1 b2 d hr;simp_all
 have hclosed:∀σ∈sp.states,∀j∈sp.steps σ,SP.nxt σ j∈sp.states:=λσ hσ j hj=>Iw<|List.all_eq_true.1 (List.all_eq_true.1 k3 σ hσ) j hj;have hsteps:∀σ j,j<ops.size→sp.eff j=true→tb σ j=false→sp.mayB σ j=true→j∈sp.steps σ:=by grind[SP.steps]
 refine⟨{v:=λj=>(l[j]?.map Tr.v).getD .nilIf,eff:=sp.eff,ok:=λσ=>σ∈sp.states,dn:=tb,nxt:=SP.nxt,fin:=sp.fin,Hs:=λσ=>(lkH σ M').getD [],mask:=sp.msk,env:=envOf l ef},?_,?_⟩
 ·have hmay:∀σ j,Plan.may {v:=λj=>(l[j]?.map Tr.v).getD .nilIf,eff:=sp.eff,ok:=λσ=>σ∈sp.states,dn:=tb,nxt:=SP.nxt,fin:=sp.fin,Hs:=λσ=>(lkH σ M').getD [],mask:=sp.msk,env:=envOf l ef} ops.size σ j→sp.mayB σ j=true:=λσ j hm=>(Xb hN).2 hm;refine⟨λj o ho=>(hat1 j o ho).1,λj o i ho hm=>?_,λi j oi oj t hi hj h1 h2=>?_,λj oj t hj ht i oi hi hti=>((hat1 j oj hj).2.2.2 i oi t hi hti).2 ht,s3,λi o ho=>?_,Iw k2,λi _ _=>Nat.zero_testBit i,?_,λj o ho hef σ hσ hm=>?_,λj o ho hef σ hσ hdn hm=>?_,λσ hσ hall=>?_,λj o ho=>?_⟩;·have h2:=(hat1 j o ho).2.1;have hm':tb (sp.mask.getD j 0) i=true:=hm;rw[h2]at hm';exact Pm hm'
  ·grind
  ·grind[envOf]
  ·grind
  ·obtain⟨t,a1,a2,a6⟩:=hget j o ho<;>grind[SP.eff,Nat.ble_eq,envOf]
  ·have hjs:=(Array.getElem?_eq_some_iff.1 ho).1;have hst:=hsteps σ j hjs hef hdn (hmay σ j hm)<;>grind[Zn,envOf]
  ·have:sp.allIn σ=true:=by grind[SP.allIn]
   have h4:=List.all_eq_true.1 k4 σ hσ;simp_all
  grind
 simp_all[envOf]
theorem A2r {e:Env}{H H2:Hz}{n:Nat}{op:AOp}(hk:op.kind=0){v:AVal}{H':Hz}(h:Ia P W0 H (aop G ⟨e,H,n⟩ op) λv' H''=>v'=v∧H''=H'):Ia P W0 H2 (aop G ⟨e,H2,n⟩ op) λv' H''=>v'=v∧H''=H2:=by
 have h0:=Wy (G:=G) (e:=e) (H:=H) (H':=H2) (n:=n) hk;cases hr:aop G ⟨e,H,n⟩ op with
 |none=>rw[hr]at h;exact h.elim
 |some r=>
  obtain⟨v1,side,rfl⟩:=Jj (.inl hk) hr;rw[hr]at h0 h;cases hr2:aop G ⟨e,H2,n⟩ op with
  |none=>rw[hr2]at h0;cases h0
  |some r2=>obtain⟨v2,Aaa,rfl⟩:=Jj (.inl hk) hr2;rw[hr2]at h0;simp only[Um,iS,iP]at h0;obtain⟨h1,h2⟩:=h0;subst h1;subst h2;exact⟨h.1,h.2.1,rfl⟩
theorem Ls {e:Env}{H H2:Hz}{n:Nat}{o:Oper}(hk:Do P o=0){v:AVal}{H':Hz}(h:Et P W0 G ops o ⟨e,H,n⟩ λv' H''=>v'=v∧H''=H'):Et P W0 G ops o ⟨e,H2,n⟩ λv' H''=>v'=v∧H''=H2:=by unfold Et at h⊢;have hgd:Cj ops ⟨e,H2,n⟩ o.guard=Cj ops ⟨e,H,n⟩ o.guard:=rfl;rw[hgd];cases hg:Cj ops ⟨e,H,n⟩ o.guard with|none=>rw[hg]at h;exact h.elim|some b=>rw[hg]at h;cases b with|false=>exact⟨h.1,rfl⟩|true=>simp only at h⊢;unfold Do at hk;cases hop:Ar P o.op with|none=>rw[hop]at h;exact h.elim|some op=>rw[hop]at h hk;exact A2r hk h
end
section
variable {P : Program} {W0 : World} {G : List (Nat × AVal)}
def Z3 (P:Program)(W0:World)(G:List<|Nat×AVal):Option AOper→St→(St→Prop)→Prop
 |some o,s,K=>Bl P W0 G o s λv H'=>Eq o.dst s.n=true∧K ⟨G3 o.dst v s.env,H',s.n⟩|none,_,_=>False
theorem drawL (hm:P.follows .mixedOrders=true)(hg:GOK W0 G){id:Nat}{ops:Array Oper}{l:List AOper}(hc:Bc P ops ops.toList=some l)(hsp:J1 P ops (Ep P ops.toList)=true)(hb:Yk (Ep P ops.toList)=true){s:St}{K:Ai→St→Prop}
 (h:Bo P W0 G l.dropLast s λs1=>Z3 P W0 G l.getLast? s1<|K .normal):Ex P W0 (.region id ops true) s K:=by
 have hN0:(Ep P ops.toList).n=ops.size:=by simp_all[J1]
 generalize Ep P ops.toList=sp at hsp hb hN0;obtain⟨hcl,hcg⟩:=Da hc;have hsz:l.length=ops.size:=Y;simp only[Yk,bAt]at hb;obtain⟨⟨⟨hst,h1n⟩,heff⟩,hk⟩:=hb;have h1n:=Nat.le_of_ble_eq_true h1n;have hstates:sp.states=[0,SP.nxt 0<|sp.n-1]:=by split at hst<;>simp_all
 have hne:l≠[]:=by grind
 obtain⟨vs,r1,r2,r3⟩:=Qr h;have hlast:l.getLast?=some (l.getLast hne):=List.getLast?_eq_some_getLast hne;rw[hlast]at r2;obtain⟨vL,HL,q1,q2,q3⟩:=Rz r2;have hdl:l.dropLast.length=l.length-1:=List.length_dropLast;have hlN:l.length-1=sp.n-1:=Y;let env:Nat→Env:=λj=>Gm l.dropLast vs s.env j;let tr:List Tr:=(List.range<|sp.n-1).map (λj=>{env:=env j,v:=(vs[j]?).getD .nilIf,σ:=0})++[{env:=env<|sp.n-1,v:=vL,σ:=0}];have htl:tr.length=ops.size:=by grind
 have htr:∀j,j<sp.n-1→tr[j]?=some {env:=env j,v:=(vs[j]?).getD .nilIf,σ:=0}:=λj hj=>by grind
 have htrL:tr[sp.n-1]?=some {env:=env<|sp.n-1,v:=vL,σ:=0}:=by grind
 have hfront:∀(j:Nat) (o:Oper),ops[j]?=some o→j<sp.n-1→∃v,vs[j]?=some v∧Et P W0 G ops o ⟨env j,s.H,s.n⟩ (λv' H'=>v'=v∧H'=s.H)∧Eq o.dst s.n=true∧env (j+1)=G3 o.dst v (env j):=by
  intro j o ho hj;obtain⟨a,ha,hca⟩:=hcg j o (by grind);have ha':l.dropLast[j]?=some a:=by grind
  obtain⟨v,b1,b2,b3,b4⟩:=r3 j a ha';grind[D9,I3]
 have hL:∀(o:Oper),ops[sp.n-1]?=some o→Et P W0 G ops o ⟨env<|sp.n-1,s.H,s.n⟩ (λv' H'=>v'=vL∧H'=HL)∧Eq o.dst s.n=true∧(l.getLast hne).dst=o.dst:=by intro o ho;obtain⟨a,ha,hca⟩:=hcg (sp.n-1) o (by grind);grind[D9,I3]
 have hbit:tb (SP.nxt 0<|sp.n-1) (sp.n-1)=true:=(Zn 0 (sp.n-1)<|sp.n-1).2 (.inr rfl);have hk':∀j,j<sp.n-1→sp.kind.getD j 0=0∨(sp.kind.getD j 0=1∧sp.msk (sp.n-1) j=true):=by simp_all
 have hkind:∀(j:Nat) (o:Oper),ops[j]?=some o→sp.kind.getD j 0=Do P o:=by intro j o ho;have h0:=hsp;simp only[J1,bAt]at h0;have:=List.all_eq_true.1 h0.2 j<|List.mem_range.2 (Array.getElem?_eq_some_iff.1 ho).1;rw[ho]at this<;>simp_all[Tn]
 have h0ne:(0:Nat)≠SP.nxt 0 (sp.n-1):=λe=>by grind[tb]
 have hl0:lkH 0 [(0,s.H),(SP.nxt 0<|sp.n-1,HL)]=some s.H:=Db _ _ _;have hl1:lkH (SP.nxt 0<|sp.n-1) [(0,s.H),(SP.nxt 0<|sp.n-1,HL)]=some HL:=by grind[lkH,Nat.eq_of_beq_eq_true]
 have hfin:sp.fin=SP.nxt 0 (sp.n-1):=by
  have h0:=hsp;simp only[J1,bAt]at h0;have h4:=List.all_eq_true.1 h0.1.2 (SP.nxt 0<|sp.n-1) (by grind);have hall:sp.allIn (SP.nxt 0<|sp.n-1)=true:=by
   unfold SP.allIn;rw[lAt];intro i hi;have hi':=List.mem_range.1 hi;cases he:sp.eff i with
   |false=>rfl
   |true=>
    rw[cond_true];by_cases hil:i=sp.n-1;·grind
    ·have:=hk' i Y;unfold SP.eff at he;have:=Nat.le_of_ble_eq_true he;omega
  simp_all
 have hplan:=Sv (W0:=W0) (G:=G) (s:=s) hsp (l:=tr) (M':=[(0,s.H),(SP.nxt 0<|sp.n-1,HL)]) (ef:=G3 (l.getLast hne).dst vL<|env<|sp.n-1) (Hfin:=HL) htl ?_ hl0 ?_ ?_ ?_ (by grind);·grind[Ex.draw]
 ·unfold envOf;by_cases h1:sp.n-1=0;·grind[Gm]
  ·rw[htr 0 Y];show Gm _ _ _ 0=_;cases l.dropLast<;>cases vs<;>rfl
 ·intro j o ho;have hj:=(Array.getElem?_eq_some_iff.1 ho).1;grind[envOf]
 ·intro j o t ho ht hko σ hσ hmay;have hj:=(Array.getElem?_eq_some_iff.1 ho).1;have hjlt:j<sp.n-1:=by
   by_cases hjl:j=sp.n-1;·exfalso;have h2:=hkind j o ho;rw[hjl]at h2;unfold SP.eff at heff;have:=Nat.le_of_ble_eq_true heff;omega
   ·omega
  obtain⟨v,b1,b2,b3,b4⟩:=hfront j o ho hjlt;rw[htr j hjlt]at ht;injection ht with ht;subst ht;rw[hstates]at hσ;simp only[List.mem_cons,List.not_mem_nil,or_false]at hσ;rcases hσ with rfl|rfl;·simp_all
  ·refine⟨HL,hl1,?_⟩;rcases hk' j hjlt with hk0|⟨hk1,hmk⟩;·rw[b1];exact Ls (by grind) b2
   ·exfalso;have hm2:=(Xb (p:=sp) (σ:=SP.nxt 0<|sp.n-1) (j:=j) hN0).1 hmay;grind
 ·intro σ hσ j hj;unfold SP.steps at hj;rw[List.mem_filter,List.mem_range]at hj;obtain⟨hjn,hj⟩:=hj;simp only[bAt,Bool.not_eq_true']at hj;have hjl:j=sp.n-1:=by
   by_cases hjl:j=sp.n-1;·exact hjl
   ·exfalso;have:=hk' j Y;have he:=hj.1.1;unfold SP.eff at he;have:=Nat.le_of_ble_eq_true he;omega
  subst hjl;rw[hstates]at hσ;simp only[List.mem_cons,List.not_mem_nil,or_false]at hσ;have hσ0:σ=0:=by grind
  simp_all
theorem ExM.drawL (hg:Gr P W0 G){m:Nat}{l:List AOper}{s:St}{K:Ai→St→Prop}(h:Bo P W0 G l.dropLast s λs1=>Z3 P W0 G l.getLast? s1<|K .normal):ExM P W0 m (.draw l true) s K:=ExM.of λc hc=>by obtain⟨id,ops,rfl,h1,h2,h3⟩:=Qk hc;exact Go.Abs.drawL hg.mixed hg.g h1 h2 h3 h
variable {l : List (Nat × AVal)} {H H' : Hz} {n : Nat} {K : St → Prop}
theorem A70 {d:Nat}{op:AOp}{f:Nat}{args:List AVal}{v:AVal}(h:aop G ⟨.al l,H,n⟩ op=some (.call f args))(hd:(Nat.blt d n&&Nat.blt d 4094)=true)(hc:A5 P W0 f args H v H')(k:K ⟨.al ((d,v)::l),H',n⟩):Z3 P W0 G (some ⟨some d,none,op⟩) ⟨.al l,H,n⟩ K:=by simp only[Z3,Bl,h];exact⟨v,H',hc,hd,k⟩
end
def nEq :List Nat→List Nat→Bool
 | [],[]=>true|a::r,b::s=>cond (Nat.beq a b) (nEq r s) false|_,_=>false
theorem A45 :∀{l k:List Nat},nEq l k=true→l=k
 | [],[],_=>rfl| [],_::_,h=>I5|_::_,[],h=>I5|a::r,b::s,h=>by simp only[nEq]at h;cases hb:Nat.beq a b with|true=>rw[hb]at h;rw[nBq hb,A45 h]|false=>rw[hb]at h;cases h
def Em (x:Nat):HMap→Bool
 | []=>false|p::r=>cond (Nat.beq x p.1) true<|Em x r
theorem X6 {x:Nat}:∀{M:HMap},Em x M=true→∃H,lkH x M=some H
 | [],h=>I5|p::r,h=>by simp only[Em,lkH]at h⊢;cases hb:Nat.beq x p.1 with|true=>exact⟨p.2,rfl⟩|false=>rw[hb]at h;exact X6 h
theorem A2h {x:Nat}{H:Hz}:∀{M:HMap},lkH x M=some H→Em x M=true
 | [],h=>I5|p::r,h=>by simp only[Em,lkH]at h⊢;cases hb:Nat.beq x p.1 with|true=>rfl|false=>rw[hb]at h;exact A2h h
theorem A2c {x y:Nat}{H:Hz}{M:HMap}:lkH x ((y,H)::M)=if x=y then some H else lkH x M:=by simp_all[lkH]
theorem Jq {x y:Nat}{H:Hz}{M:HMap}:Em x ((y,H)::M)=true↔x=y∨Em x M=true:=by grind[Em,Nat.eq_of_beq_eq_true,Nat.ne_of_beq_eq_false]
structure Pd where
 j:Nat
 o:AOper
 e:Env
 v:AVal
section
variable (P : Program) (W0 : World) (G : List (Nat × AVal))
def O3 (q:Pd)(H:Hz)(n:Nat):Prop:=Bl P W0 G q.o ⟨q.e,H,n⟩ λv' H'=>v'=q.v∧H'=H
def Qo (p:SP)(σ:Nat)(q:Pd)(n:Nat):HMap→Prop
 | []=>True|x::r=>cond (Nat.beq x.1 σ|| !(p.mayB x.1 q.j)) True (O3 P W0 G q x.2 n)∧Qo p σ q n r
def Kt (p:SP)(σ:Nat)(H:Hz)(n:Nat):List Pd→Prop
 | []=>True|q::r=>cond (p.mayB σ q.j) (O3 P W0 G q H n) True∧Kt p σ H n r
def D5 (p:SP):List AOper→Nat→Nat→HMap→List Pd→St→(St→Prop)→Prop
 | [],_,σ,M,_,s,K=>(Nat.beq σ p.fin&&nEq (p.steps σ) []&&p.states.all λx=>Em x M)=true∧K s
 |o::r,j,σ,M,pd,s,K=>Bl P W0 G o s λv H'=>Eq o.dst s.n=true∧
  cond (p.eff j)
   ((nEq (p.steps σ) [j]&& !(Em (SP.nxt σ j) M))=true∧Kt P W0 G p (SP.nxt σ j) H' s.n pd∧D5 p r (j+1) (SP.nxt σ j) ((SP.nxt σ j,H')::M) pd ⟨G3 o.dst v s.env,H',s.n⟩ K)
   (H'=s.H∧cond (Nat.beq (p.kind.getD j 0) 0) True (Qo P W0 G p σ ⟨j,o,s.env,v⟩ s.n M)∧
    D5 p r (j+1) σ M (cond (Nat.beq (p.kind.getD j 0) 0|| !(p.states.any λx=>!(Em x M)&&p.mayB x j)) pd (⟨j,o,s.env,v⟩::pd)) ⟨G3 o.dst v s.env,s.H,s.n⟩ K)
end
section
variable {P : Program} {W0 : World} {G : List (Nat × AVal)} {p : SP}
theorem X5 {σ:Nat}{q:Pd}{n:Nat}:∀{M:HMap},Qo P W0 G p σ q n M→∀{x:Nat}{H:Hz},lkH x M=some H→x≠σ→p.mayB x q.j=true→O3 P W0 G q H n
 | [],_,_,_,h,_,_=>I5
 |y::r,hp,x,H,h,hne,hm=>by
  obtain⟨h1,h2⟩:=hp;obtain⟨y1,y2⟩:=y;rw[A2c]at h;by_cases hy:x=y1;·simp_all
  ·rw[if_neg hy]at h;exact X5 h2 h hne hm
theorem Xg {σ:Nat}{H:Hz}{n:Nat}:∀{pd:List Pd},Kt P W0 G p σ H n pd→∀q∈pd,p.mayB σ q.j=true→O3 P W0 G q H n
 | [],_,_,hq,_=>by cases hq
 |y::r,hp,q,hq,hm=>by
  obtain⟨h1,h2⟩:=hp;rcases List.mem_cons.1 hq with rfl|hq;·grind
  ·exact Xg h2 q hq hm
theorem Qd :∀{l:List AOper}{j σ:Nat}{M:HMap}{pd:List Pd}{s:St}{K:St→Prop},D5 P W0 G p l j σ M pd s K→lkH σ M=some s.H→
 ∃(vs:List AVal) (M':HMap) (Hf:Hz),vs.length=l.length∧K ⟨Gm l vs s.env l.length,Hf,s.n⟩∧lkH p.fin M'=some Hf∧
  (∀x H,lkH x M=some H→lkH x M'=some H)∧(∀x∈p.states,Em x M'=true)∧
  (∀x,Em x M'=true→(Em x M=true∧x≠σ)∨p.steps x=[]∨∃k a v H2 H3,l[k]?=some a∧vs[k]?=some v∧p.steps x=[j+k]∧lkH x M'=some H2∧lkH (SP.nxt x<|j+k) M'=some H3∧Bl P W0 G a ⟨Gm l vs s.env k,H2,s.n⟩ (λv' H'=>v'=v∧H'=H3))∧
  (∀k a,l[k]?=some a→∃v,vs[k]?=some v∧Eq a.dst s.n=true∧Gm l vs s.env (k+1)=G3 a.dst v (Gm l vs s.env k)∧
   (p.eff (j+k)=false→∃H0,O3 P W0 G ⟨j+k,a,Gm l vs s.env k,v⟩ H0 s.n)∧
   (p.eff (j+k)=false→p.kind.getD (j+k) 0≠0→∀x∈p.states,∀H2,lkH x M'=some H2→p.mayB x (j+k)=true→O3 P W0 G ⟨j+k,a,Gm l vs s.env k,v⟩ H2 s.n))∧
  (∀q∈pd,∀x∈p.states,∀H2,lkH x M'=some H2→Em x M=false→p.mayB x q.j=true→O3 P W0 G q H2 s.n)
 | [],j,σ,M,pd,s,K,h,hσ=>by obtain⟨h1,h2⟩:=h;simp only[bAt]at h1;obtain⟨⟨a1,a2⟩,a3⟩:=h1;have a1:=nBq a1;have a2:=A45 a2;refine⟨[],M,s.H,Z,h2,by grind,λ_ _ h=>h,λx hx=>List.all_eq_true.1 a3 x hx,λx hx=>?_,λk a hk=>by simp at hk,λq _ x _ H2 h3 h4 _=>?_⟩;all_goals grind
 |o::r,j,σ,M,pd,s,K,h,hσ=>by
  unfold D5 at h;obtain⟨v,H',h1,h2,h3⟩:=Rz h;cases heff:p.eff j with
  |true=>
   rw[heff,cond_true]at h3;obtain⟨b1,b2,b3⟩:=h3;simp only[bAt,Bool.not_eq_true']at b1;obtain⟨b0,b1⟩:=b1;have b0:=A45 b0;obtain⟨vs,M',Hf,k1,k2,k3,k4,k5,k6,k7,k8⟩:=Qd b3<|Db _ _ _;have hsig:lkH (SP.nxt σ j) M'=some H':=k4 _ _<|Db _ _ _;have hpre:∀x H,lkH x M=some H→lkH x M'=some H:=λx H hx=>k4 x H (by rw[A2c,if_neg (λe=>by grind[A2h])];exact hx);refine⟨v::vs,M',Hf,by simp[k1],k2,k3,hpre,k5,λx hx=>?_,λk a hk=>?_,λq hq x hxs H2 hx hkn hm=>?_⟩
   ·rcases k6 x hx with⟨c1,c2⟩|c|⟨k,a,v',H2,H3,c1,c2,c3,c4,c5,c6⟩
    ·rcases Jq.1 c1 with c1|c1;·omega
     ·by_cases he:x=σ;·subst he;refine .inr<|.inr ⟨0,o,v,s.H,H',Z,Z,b0,hpre _ _ hσ,hsig,?_⟩;exact h1
      grind
    ·grind
    ·refine .inr (.inr ⟨k+1,a,v',H2,H3,by grind,by grind,?_,c4,?_,c6⟩)<;>grind
   ·cases k with
    |zero=>
     simp only[List.getElem?_cons_zero,iS]at hk;subst hk;refine⟨v,Z,h2,?_,λhc=>?_,λhc=>?_⟩;·show Gm r vs _ 0=_;cases r<;>cases vs<;>rfl
     ·grind
     ·grind
    |succ k=>simp only[List.getElem?_cons_succ]at hk⊢;have:j+(k+1)=j+1+k:=Y;rw[this];exact k7 k a hk
   ·grind[Xg,Jq]
  |false=>
   rw[heff,cond_false]at h3;obtain⟨b1,b2,b3⟩:=h3;subst b1;obtain⟨vs,M',Hf,k1,k2,k3,k4,k5,k6,k7,k8⟩:=Qd b3 hσ;refine⟨v::vs,M',Hf,by simp[k1],k2,k3,k4,k5,λx hx=>?_,λk a hk=>?_,λq hq x hxs H2 hx hkn hm=>?_⟩
   ·rcases k6 x hx with c|c|⟨k,a,v',H2,H3,c1,c2,c3,c4,c5,c6⟩;·exact .inl c
    ·grind
    ·refine .inr (.inr ⟨k+1,a,v',H2,H3,by grind,by grind,?_,c4,?_,c6⟩)<;>grind
   ·cases k with
    |zero=>
     simp only[List.getElem?_cons_zero,iS]at hk;subst hk;refine⟨v,Z,h2,?_,λ_=>⟨s.H,h1⟩,λ_ hk0 x hxs H2 hx hm=>?_⟩;·show Gm r vs _ 0=_;cases r<;>cases vs<;>rfl
     ·rw[Nat.add_zero]at hk0 hm;have hkb:Nat.beq (p.kind.getD j 0) 0=false:=by grind[Nat.eq_of_beq_eq_true]
      rw[hkb,cond_false]at b2;cases hkn:Em x M with
      |true=>
       obtain⟨H3,h3⟩:=X6 hkn;have:=k4 _ _ h3;rw[hx]at this;injection this with this;subst this;by_cases he:x=σ;·subst he;rw[hσ]at h3;injection h3 with h3;subst h3;exact h1
       ·exact X5 b2 h3 he hm
      |false=>have hany:(p.states.any λx=>!(Em x M)&&p.mayB x j)=true:=List.any_eq_true.2 ⟨x,hxs,by grind⟩;refine k8 ⟨j,o,s.env,v⟩ ?_ x hxs H2 hx hkn hm;rw[hkb,hany];exact List.mem_cons_self
    |succ k=>simp only[List.getElem?_cons_succ]at hk⊢;have:j+(k+1)=j+1+k:=Y;rw[this];exact k7 k a hk
   ·grind
theorem drawC (hm:P.follows .mixedOrders=true)(hg:GOK W0 G){id:Nat}{ops:Array Oper}{l:List AOper}(hc:Bc P ops ops.toList=some l)(hsp:J1 P ops p=true){s:St}{K:Ai→St→Prop}
 (h:D5 P W0 G p l 0 0 [(0,s.H)] [] s<|K .normal):Ex P W0 (.region id ops true) s K:=by
 obtain⟨hcl,hcg⟩:=Da hc;have hsz:l.length=ops.size:=Y;have hkind:∀(j:Nat) (o:Oper),ops[j]?=some o→p.kind.getD j 0=Do P o:=by simp_all[J1,aSi,Tn]
 obtain⟨vs,M',Hf,r1,r2,r3,r4,r5,r6,r7,_⟩:=Qd h<|Db _ _ _;let tr:List Tr:=(List.range ops.size).map λj=>{env:=Gm l vs s.env j,v:=(vs[j]?).getD .nilIf,σ:=0};have htl:tr.length=ops.size:=by simp[tr]
 have htr:∀j,j<ops.size→tr[j]?=some {env:=Gm l vs s.env j,v:=(vs[j]?).getD .nilIf,σ:=0}:=λj hj=>by grind
 have hget:∀(j:Nat) (o:Oper),ops[j]?=some o→∃a v,l[j]?=some a∧Be P ops o=some a∧vs[j]?=some v∧Eq o.dst s.n=true∧Gm l vs s.env (j+1)=G3 o.dst v (Gm l vs s.env j)∧
  (p.eff j=false→∃H0,Et P W0 G ops o ⟨Gm l vs s.env j,H0,s.n⟩ λv' H'=>v'=v∧H'=H0)∧
  (p.eff j=false→p.kind.getD j 0≠0→∀x∈p.states,∀H2,lkH x M'=some H2→p.mayB x j=true→Et P W0 G ops o ⟨Gm l vs s.env j,H2,s.n⟩ λv' H'=>v'=v∧H'=H2):=by
  intro j o ho;obtain⟨a,ha,hca⟩:=hcg j o (by grind);obtain⟨v,b1,b2,b3,b4,b5⟩:=r7 j a ha;rw[D9 hca]at b2 b3;rw[Nat.zero_add]at b4 b5;refine⟨a,v,ha,hca,b1,b2,b3,λhe=>?_,λhe hk x hx H2 hl hm=>I3 hca<|b5 he hk x hx H2 hl hm⟩;obtain⟨H0,h0⟩:=b4 he;exact⟨H0,I3 hca h0⟩
 have hplan:=Sv (W0:=W0) (G:=G) (s:=s) hsp (l:=tr) (M':=M') (ef:=Gm l vs s.env ops.size) (Hfin:=Hf) htl ?_ (r4 _ _<|Db _ _ _) ?_ ?_ ?_ r3;·grind[Ex.draw]
 ·unfold envOf;by_cases h0:0<ops.size;·rw[htr 0 h0];show Gm _ _ _ 0=_;cases l<;>cases vs<;>rfl
  grind[Gm]
 ·grind[envOf]
 ·intro j o t ho ht hko σ hσ hmay;have hj:=(Array.getElem?_eq_some_iff.1 ho).1;rw[htr j hj]at ht;injection ht with ht;subst ht;obtain⟨a,v,a1,a2,a3,a4,a5,a6,a7⟩:=hget j o ho;obtain⟨H2,h2⟩:=X6<|r5 σ hσ;refine⟨H2,h2,?_⟩;have heff:p.eff j=false:=by unfold SP.eff;rw[hkind j o ho];cases hb:Nat.ble 2 (Do P o)with|false=>rfl|true=>have:=Nat.le_of_ble_eq_true hb;omega
  show Et P W0 G ops o ⟨Gm l vs s.env j,H2,s.n⟩ λv' H'=>v'=(vs[j]?).getD .nilIf∧H'=H2;rw[a3];by_cases hk0:p.kind.getD j 0=0;·obtain⟨H0,h0⟩:=a6 heff;exact Ls (by grind) h0
  ·exact a7 heff hk0 σ hσ H2 h2 hmay
 ·intro σ hσ j hj;rcases r6 σ (r5 σ hσ)with⟨c1,c2⟩|c|⟨k,a,v,H2,H3,c1,c2,c3,c4,c5,c6⟩
  ·rcases Jq.1 c1 with c|c;·omega
   ·cases c
  ·grind
  ·rw[c3,Nat.zero_add,List.mem_singleton]at hj;subst hj;rw[Nat.zero_add]at c5;have hjlt:j<ops.size:=by grind
   have ho:ops[j]?=some ops[j]:=Array.getElem?_eq_getElem hjlt;obtain⟨a',v',a1,a2,a3,_⟩:=hget j _ ho;rw[c1]at a1;injection a1 with a1;subst a1;refine⟨ops[j],_,H2,H3,ho,htr j hjlt,c4,?_,c5⟩;show Et P W0 G ops ops[j] ⟨Gm l vs s.env j,H2,s.n⟩ λv' H'=>v'=(vs[j]?).getD .nilIf∧H'=H3;simp_all[I3]
theorem ExM.drawC (hg:Gr P W0 G){m:Nat}{l:List AOper}{p:SP}{s:St}{K:Ai→St→Prop}(h:D5 P W0 G p l 0 0 [(0,s.H)] [] s<|K .normal):ExM P W0 m (.drawC l p) s K:=ExM.of λc hc=>by obtain⟨id,ops,rfl,h1,h2⟩:=U9 hc;exact Go.Abs.drawC hg.mixed hg.g h1 h2 h
variable {l : List (Nat × AVal)} {H H' : Hz} {n j σ : Nat} {M : HMap} {pd : List Pd} {K : St → Prop} {r : List AOper}
theorem A23 (h:(Nat.beq σ p.fin&&nEq (p.steps σ) []&&p.states.all λx=>Em x M)=true)(k:K ⟨.al l,H,n⟩):D5 P W0 G p [] j σ M pd ⟨.al l,H,n⟩ K:=⟨h,k⟩
theorem Dm {d:Nat}{op:AOp}{v:AVal}{side:List (Int×Int)}(h:aop G ⟨.al l,H,n⟩ op=some (.val v H side))(hd:(Nat.blt d n&&Nat.blt d 4094)=true)(hs:Ag side)
 (he:(!(p.eff j)&&(Nat.beq (p.kind.getD j 0) 0||(M.all λx=>Nat.beq x.1 σ|| !(p.mayB x.1 j))))=true)
 (k:D5 P W0 G p r (j+1) σ M (cond (Nat.beq (p.kind.getD j 0) 0|| !(p.states.any λx=>!(Em x M)&&p.mayB x j)) pd (⟨j,⟨some d,none,op⟩,.al l,v⟩::pd)) ⟨.al ((d,v)::l),H,n⟩ K):
 D5 P W0 G p (⟨some d,none,op⟩::r) j σ M pd ⟨.al l,H,n⟩ K:=by
 simp only[bAt,Bool.not_eq_true',Bool.or_eq_true]at he;unfold D5;simp only[Bl,h];refine⟨hs,hd,?_⟩;rw[he.1,cond_false];refine⟨Z,?_,k⟩;cases hk:Nat.beq (p.kind.getD j 0) 0 with
 |true=>trivial
 |false=>
  rcases he.2 with h0|h0;·grind
  ·rw[cond_false];clear k h he;induction M with|nil=>trivial|cons x M ih=>simp only[List.all_cons,bAt]at h0;refine⟨?_,ih h0.2⟩;have h1:(Nat.beq x.1 σ|| !(p.mayB x.1 j))=true:=h0.1;show cond (Nat.beq x.1 σ|| !(p.mayB x.1 j)) True _;rw[h1];trivial
theorem cEff {d:Option Nat}{op:AOp}{v:AVal}(h:Bl P W0 G ⟨d,none,op⟩ ⟨.al l,H,n⟩ λv' X=>v'=v∧X=H')(hd:Eq d n=true)(he:(p.eff j&&(nEq (p.steps σ) [j]&& !(Em (SP.nxt σ j) M)))=true)(hp:Kt P W0 G p (SP.nxt σ j) H' n pd)
 (k:D5 P W0 G p r (j+1) (SP.nxt σ j) ((SP.nxt σ j,H')::M) pd ⟨G3 d v<|.al l,H',n⟩ K):D5 P W0 G p (⟨d,none,op⟩::r) j σ M pd ⟨.al l,H,n⟩ K:=by
 simp only[bAt]at he;unfold D5;have:∀{Q:AVal→Hz→Prop},Q v H'→Bl P W0 G ⟨d,none,op⟩ ⟨.al l,H,n⟩ Q:=λ{Q} hQ=>by simp only[Bl]at h⊢;unfold Ia at h⊢;grind
 grind
theorem Rk {d:Nat}{op:AOp}{v:AVal}{side:List (Int×Int)}(h:aop G ⟨.al l,H,n⟩ op=some (.val v H' side))(hd:(Nat.blt d n&&Nat.blt d 4094)=true)(hs:Ag side)(he:(p.eff j&&(nEq (p.steps σ) [j]&& !(Em (SP.nxt σ j) M)))=true)(hp:Kt P W0 G p (SP.nxt σ j) H' n pd)
 (k:D5 P W0 G p r (j+1) (SP.nxt σ j) ((SP.nxt σ j,H')::M) pd ⟨.al ((d,v)::l),H',n⟩ K):D5 P W0 G p (⟨some d,none,op⟩::r) j σ M pd ⟨.al l,H,n⟩ K:=
 cEff (v:=v) (by simp only[Bl,h];exact⟨hs,rfl,rfl⟩) hd he hp k
theorem Vz {d:Nat}{op:AOp}{f:Nat}{args:List AVal}{v:AVal}(h:aop G ⟨.al l,H,n⟩ op=some (.call f args))(hd:(Nat.blt d n&&Nat.blt d 4094)=true)(hc:A5 P W0 f args H v H')(he:(p.eff j&&(nEq (p.steps σ) [j]&& !(Em (SP.nxt σ j) M)))=true)(hp:Kt P W0 G p (SP.nxt σ j) H' n pd)
 (k:D5 P W0 G p r (j+1) (SP.nxt σ j) ((SP.nxt σ j,H')::M) pd ⟨.al ((d,v)::l),H',n⟩ K):D5 P W0 G p (⟨some d,none,op⟩::r) j σ M pd ⟨.al l,H,n⟩ K:=
 cEff (v:=v) (by simp only[Bl,h];exact⟨v,H',hc,rfl,rfl⟩) hd he hp k
theorem R5 {op:AOp}(h:aop G ⟨.al l,H,n⟩ op=some (.skip H'))(he:(p.eff j&&(nEq (p.steps σ) [j]&& !(Em (SP.nxt σ j) M)))=true)(hp:Kt P W0 G p (SP.nxt σ j) H' n pd)
 (k:D5 P W0 G p r (j+1) (SP.nxt σ j) ((SP.nxt σ j,H')::M) pd ⟨.al l,H',n⟩ K):D5 P W0 G p (⟨none,none,op⟩::r) j σ M pd ⟨.al l,H,n⟩ K:=
 cEff (d:=none) (v:=.tup []) (by simp only[Bl,h];exact⟨rfl,rfl⟩) rfl he hp k
theorem zSkip {op:AOp}(h:aop G ⟨.al l,H,n⟩ op=some (.skip H'))(k:K ⟨.al l,H',n⟩):Z3 P W0 G (some ⟨none,none,op⟩) ⟨.al l,H,n⟩ K:=by simp only[Z3,Bl,h];exact⟨Z,k⟩
theorem U7 {d:Nat}{op:AOp}{v:AVal}{side:List (Int×Int)}(h:aop G ⟨.al l,H,n⟩ op=some (.val v H side))(hd:(Nat.blt d n&&Nat.blt d 4094)=true)(hs:Ag side)
 (he:(!(p.eff j)&& !(Nat.beq (p.kind.getD j 0) 0))=true) (hp:Qo P W0 G p σ ⟨j,⟨some d,none,op⟩,.al l,v⟩ n M)
 (k:D5 P W0 G p r (j+1) σ M (cond (Nat.beq (p.kind.getD j 0) 0|| !(p.states.any λx=>!(Em x M)&&p.mayB x j)) pd (⟨j,⟨some d,none,op⟩,.al l,v⟩::pd)) ⟨.al ((d,v)::l),H,n⟩ K):
 D5 P W0 G p (⟨some d,none,op⟩::r) j σ M pd ⟨.al l,H,n⟩ K:=by
 simp only[bAt,Bool.not_eq_true']at he;unfold D5;simp only[Bl,h];refine⟨hs,hd,?_⟩;rw[he.1,cond_false];refine⟨Z,?_,k⟩;grind
theorem pdN :Kt P W0 G p σ H n []:=O
theorem pdC {q:Pd}(h:cond (p.mayB σ q.j) (O3 P W0 G q H n) True)(k:Kt P W0 G p σ H n pd):Kt P W0 G p σ H n (q::pd):=⟨h,k⟩
theorem ptN {q:Pd}:Qo P W0 G p σ q n []:=O
theorem ptC {q:Pd}{x:Nat×Hz}(h:cond (Nat.beq x.1 σ|| !(p.mayB x.1 q.j)) True<|O3 P W0 G q x.2 n)(k:Qo P W0 G p σ q n M):Qo P W0 G p σ q n (x::M):=⟨h,k⟩
theorem evY {j d:Nat}{op:AOp}{e:Env}{v:AVal}{side:List (Int×Int)}(h:aop G ⟨e,H,n⟩ op=some (.val v H side))(hs:Ag side):O3 P W0 G ⟨j,⟨some d,none,op⟩,e,v⟩ H n:=by simp only[O3,Bl,h];exact⟨hs,Z,Z⟩
theorem cY {b:Bool}{A:Prop}(h:b=true)(k:A):cond b A True:=by grind
theorem cN {b:Bool}{A:Prop}(h:b=false):cond b A True:=by grind
theorem cYp {b:Bool}{A:Prop}(h:b=false)(k:A):cond b True A:=by grind
theorem cNp {b:Bool}{A:Prop}(h:b=true):cond b True A:=by grind
end
def i8s (l:List Int):List AVal:=l.map<|AVal.int .i8
def nb (b:Bool)(l:List Int)(m:Bool):List AVal:=.bool b::(i8s l++[.bool m])
theorem Lr (l:List Int):(i8s l).length=l.length:=by simp[i8s]
theorem Fg (b:Bool)(l:List Int)(m:Bool):(nb b l m).length=l.length+2:=by simp[nb,i8s]
theorem A6i (l:List Int):(i8s l).all AVal.one=true:=by induction l with|nil=>rfl|cons d l ih=>exact ih
theorem nb_one (b:Bool)(l:List Int)(m:Bool):(nb b l m).all AVal.one=true:=by show((i8s l++[AVal.bool m]).all AVal.one)=true;rw[List.all_append,A6i];rfl
theorem blwL_i8 {n:Nat}(l:List Int)(r:List AVal):Ab n (i8s l++r)=Ab n r:=by induction l with|nil=>rfl|cons d l ih=>exact ih
theorem I0 {n:Nat}(b:Bool)(l:List Int)(m:Bool):Ab n (nb b l m)=true:=by show Ab n (i8s l++[AVal.bool m])=true;rw[blwL_i8];rfl
theorem A6w {b m:Bool}{l:List Int}{n:Nat}(h:n<l.length):(nb b l m).drop (1+n)= .int .i8 (l.getD n 0)::((i8s l).drop (n+1)++[.bool m]):=by rw[Nat.add_comm 1 n];show(i8s l++[AVal.bool m]).drop n=_;grind[i8s,List.drop_eq_getElem_cons]
theorem A6e {b m:Bool}{l:List Int}{n:Nat}(h:n≤l.length):(nb b l m).take (1+n)= .bool b::i8s (l.take n):=by rw[Nat.add_comm 1 n];show AVal.bool b::((i8s l++[AVal.bool m]).take n)=_;grind[i8s,List.map_take]
theorem nb_set {b m:Bool}{l:List Int}{n:Nat}{v:Int}(h:n<l.length):spl (nb b l m) (1+n) [.int .i8 v]=nb b (l.set n v) m:=by
 have h1:(nb b l m).drop (1+n+1)=(i8s l).drop (n+1)++[AVal.bool m]:=by have:=congrArg List.tail<|A6w (b:=b) (m:=m) h;simp_all
 show(nb b l m).take (1+n)++([.int .i8 v]++(nb b l m).drop (1+n+[AVal.int .i8 v].length))=_;rw[A6e<|Nat.le_of_lt h];simp_all[i8s,nb,List.set_eq_take_append_cons_drop]
section
variable {G : List (Nat × AVal)} {s : St} {id T : Nat} {b m : Bool} {l : List Int}
theorem V8 {x i:AOpd}{n:Nat}(hx:ev G s x=some (.ptr id 1))(hi:ev G s i=some (.int .i64 (n:Nat)))(ho:s.H[id]?=some (.cells T (nb b l m) false)):aop G s (.idxArr 96 1 x i)=some (.val (.ptr id<|1+n) s.H [(0,(n:Nat)),((n:Nat)+1,96)]):=by simp_all[Nx,aop,A0s]
theorem Wz {a:AOpd}{n:Nat}(ha:ev G s a=some (.ptr id<|1+n))(ho:s.H[id]?=some (.cells T (nb b l m) false))(hn:n<l.length):aop G s (.load 1 false a)=some (.val (.int .i8<|l.getD n 0) s.H []):=by simp only[aop,ha,J4,ho,Bt,A6w hn];rfl
theorem Xo {a x:AOpd}{n:Nat}{v:Int}{H':Hz}(ha:ev G s a=some (.ptr id<|1+n))(hx:ev G s x=some (.int .i8 v))(ho:s.H[id]?=some (.cells T (nb b l m) false))(hn:n<l.length)(hH:s.H.set id (.cells T (nb b (l.set n v) m) false)=H'):aop G s (.store 1 a x)=some (.skip H'):=by
 subst hH;have h1:Nat.ble (1+n+1) (nb b l m).length=true:=by grind[Fg,Nat.ble_eq_true_of_le]
 have h2:(Nat.beq [AVal.int .i8 v].length 1&&Nat.ble (1+n+1) (nb b l m).length&&[AVal.int .i8 v].all AVal.one)=true:=by rw[h1];rfl
 simp only[aop,ha,hx,M7,ho];show(match(cond (Nat.beq [AVal.int .i8 v].length 1&&Nat.ble (1+n+1) (nb b l m).length&&[AVal.int .i8 v].all AVal.one) (some<|s.H.set id<|.cells T (spl (nb b l m) (1+n) [.int .i8 v]) false) none)with|some H'=>some (ARes.skip H')|none=>none)=_;grind[nb_set]
theorem Abm {a:AOpd}(ha:ev G s a=some (.ptr id 1))(ho:s.H[id]?=some (.cells T (nb b l m) false))(hl:l.length=96):aop G s (.load 96 true a)=some (.val (.agg<|i8s l) s.H []):=by
 have h1:((nb b l m).drop 1).take 96=i8s l:=by grind[nb,Lr]
 simp only[aop,ha,J4,ho,Bt,h1,Lr,hl];rfl
theorem A5h {a:AOpd}(ha:ev G s a=some (.ptr id 0))(ho:s.H[id]?=some (.cells T (nb b l m) false))(hl:l.length=96):aop G s (.load 98 true a)=some (.val (.agg<|nb b l m) s.H []):=by
 have h1:((nb b l m).drop 0).take 98=nb b l m:=by simp_all[List.take_of_length_le,Fg]
 simp only[aop,ha,J4,ho,Bt,h1,Fg,hl];rfl
theorem loadNb {a:AOpd}(ha:ev G s a=some (.ptr id 0))(ho:s.H[id]?=some (.cells T (nb b l m) false)):aop G s (.load 1 false a)=some (.val (.bool b) s.H []):=by simp only[aop,ha,J4,ho,Bt];rfl
theorem loadNm {a:AOpd}(ha:ev G s a=some (.ptr id 97))(ho:s.H[id]?=some (.cells T (nb b l m) false))(hl:l.length=96):aop G s (.load 1 false a)=some (.val (.bool m) s.H []):=by
 have h1:(nb b l m).drop 97=[AVal.bool m]:=by grind[nb,Lr]
 simp only[aop,ha,J4,ho,Bt,h1];rfl
theorem storeNm {a x:AOpd}{v:Bool}{H':Hz}(ha:ev G s a=some (.ptr id 97))(hx:ev G s x=some (.bool v))(ho:s.H[id]?=some (.cells T (nb b l m) false))(hl:l.length=96)(hH:s.H.set id (.cells T (nb b l v) false)=H'):aop G s (.store 1 a x)=some (.skip H'):=by
 subst hH;have h0:(nb b l m).length=98:=by rw[Fg,hl]
 have h3:spl (nb b l m) 97 [AVal.bool v]=nb b l v:=by show(nb b l m).take (1+96)++([AVal.bool v]++(nb b l m).drop 98)=_;rw[A6e Y,List.drop_of_length_le Y,List.take_of_length_le Y];rfl
 simp only[aop,ha,hx,M7,ho];show(match(cond (Nat.beq [AVal.bool v].length 1&&Nat.ble (97+1) (nb b l m).length&&[AVal.bool v].all AVal.one) (some<|s.H.set id<|.cells T (spl (nb b l m) 97 [AVal.bool v]) false) none)with|some H'=>some (ARes.skip H')|none=>none)=_;rw[h0,h3];rfl
theorem cutN {x hi:AOpd}{n:Nat}(hx:ev G s x=some (.ptr id 1))(hhi:ev G s hi=some (.int .i64 (n:Nat)))(ho:s.H[id]?=some (.cells T (nb b l m) false))(hl:l.length=96):aop G s (.cutArr 96 1 x<|some hi)=some (.val (.hsl 1 id 1 n<|some 96) s.H [(0,(n:Nat)),((n:Nat),96)]):=by
 have h0:Nat.ble (1+96*1) (nb b l m).length=true:=by rw[Fg,hl];rfl
 simp only[aop,hx,oev,hhi,Vs,ho,h0,cond_true];rfl
def clr (l:List Int)(n:Nat):List Int:=List.replicate n 0++l.drop n
theorem A46 {l:List Int}{n:Nat}(h:n≤l.length):(clr l n).length=l.length:=by simp[clr];omega
theorem clearN {x:AOpd}{n:Nat}{H':Hz}{c:Option Nat}(hx:ev G s x=some (.hsl 1 id 1 n c))(ho:s.H[id]?=some (.cells T (nb b l m) false))(hl:n≤l.length)(hH:s.H.set id (.cells T (nb b (clr l n) m) false)=H'):aop G s (.clear 1 [.int .i8 0] x)=some (.val (.tup []) H' []):=by
 subst hH;have hz:Jm [.int .i8 0] (n*1)=i8s (List.replicate n 0):=by simp_all[Jm,i8s,List.eq_replicate_iff,Nat.mod_one]
 have h3:spl (nb b l m) 1 (i8s<|List.replicate n 0)=nb b (clr l n) m:=by show AVal.bool b::(i8s (List.replicate n 0)++(nb b l m).drop (1+(i8s<|List.replicate n 0).length))=_;simp_all[Nat.add_comm,i8s,List.drop_append_of_le_length,nb,clr]
 simp only[aop,hx,A0c,ho,hz,h3,Nat.beq_refl,cond_true,A6i];grind[Nat.eq_of_beq_eq_true,clr,S4]
end
theorem Ya {l:List Int}{i:Nat}(h:i<l.length):J0 1 false (i*1) (.agg<|i8s l)=some (.int .i8<|l.getD i 0):=by simp_all[i8s,List.drop_eq_getElem_cons,J0]
theorem A74 {l l':List Int}:∀(k i:Nat),i+k≤l.length→i+k≤l'.length→∃c,aeq (Ue 1 false .i i k) (.agg<|i8s l) (.agg<|i8s l')=some c
 |0,_,_,_=>⟨true,rfl⟩|k+1,i,h1,h2=>by obtain⟨c,hc⟩:=A74 (l:=l) (l':=l') k (i+1) Y Y;refine⟨(l.getD i 0==l'.getD i 0)&&c,?_⟩;simp only[Ue,aeq,Ya (show i<l.length by omega),Ya (show i<l'.length by omega),hc];rfl
section
variable {H X : Hz} {id j : Nat} {o x : HObj}
theorem gA (h:H[id]?=some o):(H++X)[id]?=some o:=by grind
theorem gSt (hne:j≠id)(h:H[id]?=some o):(H.set j x)[id]?=some o:=by grind
theorem gT (h:id<H.length):(H.set id x)[id]?=some x:=List.getElem?_set_self h
theorem gL :(H++[x])[H.length]?=some x:=List.getElem?_concat_length
theorem gL2 :(H++[o,x])[H.length+1]?=some x:=by grind
theorem gLt (h:H[id]?=some o):id<H.length:=(List.getElem?_eq_some_iff.1 h).1
theorem A0a (h:id<H.length):(H++X).set id x=H.set id x++X:=by grind
theorem Xv {n:Nat}(h:B9 n H=true)(hx:B9 n [x]=true):B9 n (H.set id x)=true:=by
 induction H generalizing id with
 |nil=>exact h
 |cons a r ih=>
  cases id with
  |zero=>cases a<;>cases x<;>simp only[List.set_cons_zero,B9]at h hx⊢<;>first|exact h|simp_all
  |succ i=>
   simp only[List.set_cons_succ];cases a with
   |cells T cs op=>
    simp only[B9]at h⊢;cases hc:Ab n cs with
    |false=>rw[hc]at h;cases h
    |true=>rw[hc]at h;exact ih h
   |iter s p=>exact ih h|mp es=>exact ih h|dead=>exact ih h
theorem F9 {n:Nat}:∀{H X:Hz},B9 n H=true→B9 n X=true→B9 n (H++X)=true
 | [],_,_,hx=>hx
 |.cells T cs op::r,X,h,hx=>by
  simp only[List.cons_append,B9]at h⊢;cases hc:Ab n cs with
  |false=>rw[hc]at h;cases h
  |true=>rw[hc]at h;exact F9 h hx
 |.iter s p::r,X,h,hx=>F9 (H:=r) h hx|.mp es::r,X,h,hx=>F9 (H:=r) h hx|.dead::r,X,h,hx=>F9 (H:=r) h hx
end
mutual
theorem Ry {n k : Nat} (hk : n ≤ k) : ∀ (a : AVal), blw n a = true → blw k a = true
  | .agg cs, h => Fo hk cs h
  | .tup cs, h => Fo hk cs h
  | .row _ es, h => Fo hk es h
  | .hsl _ id _ _ _, h => by grind [blw, Nat.blt_eq]
  | .ptr id _, h => by grind [blw, Nat.blt_eq]
  | .mref id, h => by grind [blw, Nat.blt_eq]
  | .optr id _ _, h => by grind [blw, Nat.blt_eq]
  | .eptr e _, h => Ry hk e h
  | .fn _ a c, h => by
    simp only [blw] at h ⊢
    cases ha : Ab n a with
    | false => rw [ha] at h; cases h
    | true => rw [ha] at h; rw [Fo hk a ha]; exact Fo hk c h
  | .iface _ x, h => Ry hk x h
  | .bool _, _ | .int _ _, _ | .str _, _ | .nilSl, _ | .emp, _ | .nilPtr, _ | .nilFn, _ | .nilMp, _ | .nilIf, _ => rfl
theorem Fo {n k : Nat} (hk : n ≤ k) : ∀ (l : List AVal), Ab n l = true → Ab k l = true
  | [], _ => rfl
  | v :: r, h => by
    simp only [Ab] at h ⊢
    cases hv : blw n v with
    | false => rw [hv] at h; cases h
    | true => rw [hv] at h; rw [Ry hk v hv]; exact Fo hk r h
end
theorem Ih {n k:Nat}(hk:n≤k):∀{H:Hz},B9 n H=true→B9 k H=true
 | [],_=>rfl
 |.cells T cs op::r,h=>by
  simp only[B9]at h⊢;cases hc:Ab n cs with
  |false=>rw[hc]at h;cases h
  |true=>rw[hc]at h;rw[Fo hk cs hc];exact Ih hk h
 |.iter s p::r,h=>Ih (H:=r) hk h|.mp es::r,h=>Ih (H:=r) hk h|.dead::r,h=>Ih (H:=r) hk h
theorem C4 {n:Nat}(l:Bz):Ab n (u8c l)=true:=by induction l with|nil=>rfl|cons d l ih=>exact ih
theorem blwH_u8 {n T:Nat}(l:Bz):B9 n [.cells T (u8c l) true]=true:=by show cond (Ab n<|u8c l) true false=true;rw[C4];rfl
theorem A5p (l:Bz):(u8c l).length=l.length:=Ys
theorem Aax (l:Bz)(b:UInt8):u8c (l++[b])=u8c l++[.int .u8 (b.toNat:Nat)]:=Ys
theorem u8c_app (l k:Bz):u8c (l++k)=u8c l++u8c k:=Ys
section
variable {G : List (Nat × AVal)} {s : St} {id jd T n : Nat} {cs : List AVal}
theorem Ig {x:AOpd}{off:Nat}(hx:ev G s x=some (.ptr id off))(ho:s.H[id]?=some (.cells T cs false)):aop G s (.nilCheck x)=some (.val (.ptr id off) s.H []):=by
 have hl:Nx s.H id=true:=by grind[Nx]
 simp only[aop,hx,anil,hl];rfl
theorem Gk {x:AOpd}{off k:Nat}(hx:ev G s x=some (.ptr id off))(ho:s.H[id]?=some (.cells T cs false)):aop G s (.fieldAddr k x)=some (.val (.ptr id<|off+k) s.H []):=by
 have hl:Nx s.H id=true:=by grind[Nx]
 simp only[aop,hx,A0s,hl];rfl
theorem Na {x:AOpd}{off k:Nat}{g:Bool}{v:AVal}(hx:ev G s x=some (.ptr id off))(ho:s.H[id]?=some (.cells T cs false))(hr:Bt k g cs off=some v):aop G s (.load k g x)=some (.val v s.H []):=by simp only[aop,hx,J4,ho,hr];rfl
theorem Jy {a x:AOpd}{off k:Nat}{v:AVal}{H':Hz}(ha:ev G s a=some (.ptr id off))(hx:ev G s x=some v)(ho:s.H[id]?=some (.cells T cs false))(hc:(Nat.beq v.cells.length k&&Nat.ble (off+k) cs.length&&v.cells.all AVal.one)=true)(hH:s.H.set id (.cells T (spl cs off v.cells) false)=H'):aop G s (.store k a x)=some (.skip H'):=by grind[aop,M7]
theorem A92 {x i:AOpd}{m:Nat}{c:Option Nat}(hx:ev G s x=some (.hsl 1 id 0 m c))(hi:ev G s i=some (.int .i64 (n:Nat)))(ho:s.H[id]?=some (.cells T cs false)):aop G s (.idxSl 1 x i)=some (.val (.ptr id n) s.H [(0,(n:Nat)),((n:Nat)+1,(m:Nat))]):=by simp_all[Nx,aop]
theorem A8y {l:List Nat}{i:Nat}(h:i<l.length):(Bf l).drop i= .int .i64 (l.getD i 0:Nat)::(Bf l).drop (i+1):=by grind[Bf,List.drop_eq_getElem_cons]
theorem A4f {x:AOpd}{l:List Nat}(hx:ev G s x=some (.ptr id n))(ho:s.H[id]?=some (.cells T (Bf l) false))(hn:n<l.length):aop G s (.load 1 false x)=some (.val (.int .i64 (l.getD n 0:Nat)) s.H []):=Na hx ho (by rw[Bt,A8y hn];rfl)
theorem oAppB {x y:AOpd}{l:Bz}{b:UInt8}{vd:Nat}{c c':Option Nat}{H':Hz}(hx:ev G s x=some (.hsl 1 jd 0 l.length c))(hy:ev G s y=some (.hsl 1 vd 0 1 c'))(hj:s.H[jd]?=some (.cells 5 (u8c l) true))(hv:s.H[vd]?=some (.cells 5 [.int .u8 (b.toNat:Nat)] false))(hH:s.H.set jd (.cells 5 (u8c<|l++[b]) true)=H'):
 aop G s (.append 5 1 1 x y)=some (.val (.hsl 1 jd 0 (l++[b]).length none) H' [(((l.length+1)*1:Nat),C6),((l.length+1:Nat),C6)]):=by
 subst hH;have h2:(l++[b]).length=l.length+1:=Ax;have hl:(u8c l).length=l.length*1:=by rw[A5p,Nat.mul_one]
 have hy':D6 1 s.H (.hsl 1 vd 0 1 c')=some ([.int .u8 (b.toNat:Nat)],1):=by simp_all[D6]
 rw[h2,Aax];simp only[aop,hx,hy,Qs,hy',Gl,hj,hl,Nat.beq_refl,cond_true,Bool.and_self];rfl
theorem oAppB0 {x y:AOpd}{b:UInt8}{vd:Nat}{c':Option Nat}(hx:ev G s x=some .nilSl)(hy:ev G s y=some (.hsl 1 vd 0 1 c'))(hv:s.H[vd]?=some (.cells 5 [.int .u8 (b.toNat:Nat)] false)):
 aop G s (.append 5 1 1 x y)=some (.val (.hsl 1 s.H.length 0 1 none) (s.H++[.cells 5 (u8c [b]) true]) [((1*1:Nat),C6),((1:Nat),C6)]):=by
 have hy':D6 1 s.H (.hsl 1 vd 0 1 c')=some ([.int .u8 (b.toNat:Nat)],1):=by simp_all[D6]
 simp only[aop,hx,hy,Qs,hy',Gl];rfl
theorem oAppS {x y:AOpd}{l k:Bz}{c:Option Nat}{H':Hz}(hx:ev G s x=some (.hsl 1 jd 0 l.length c))(hy:ev G s y=some (.str k))(hk:k≠[])(hj:s.H[jd]?=some (.cells 5 (u8c l) true))(hH:s.H.set jd (.cells 5 (u8c<|l++k) true)=H'):
 aop G s (.appS 5 x y)=some (.val (.hsl 1 jd 0 (l++k).length none) H' [((l.length+k.length:Nat),C6)]):=by
 subst hH;have h0:Nat.beq k.length 0=false:=by grind[Nat.eq_of_beq_eq_true]
 simp_all[u8c_app,aop,A3l,A5p]
theorem oAppS0 {x y:AOpd}{k:Bz}(hx:ev G s x=some .nilSl)(hy:ev G s y=some (.str k))(hk:k≠[]):
 aop G s (.appS 5 x y)=some (.val (.hsl 1 s.H.length 0 k.length none) (s.H++[.cells 5 (u8c k) true]) [((k.length:Nat),C6)]):=by
 have h0:Nat.beq k.length 0=false:=by grind[Nat.eq_of_beq_eq_true]
 simp_all[aop,A3l]
theorem oMapGet {m k:AOpd}{md:Nat}{es:List (Bz×Int)}{q:Bz}(hm:ev G s m=some (.mref md))(hk:ev G s k=some (.str q))(ho:s.H[md]?=some (.mp es)):aop G s (.mapGet m k)=some (.val (.int .i64<|It es q) s.H []):=by simp only[aop,hm,hk,aget,ho];rfl
end
def Ae :Nat→Nat→Bz
 |0,_=>[]|k+1,n=>UInt8.ofNat (n/256^k)::Ae k n
def E1 (w:Nat)(ns:List Nat):Bz:=ns.flatMap<|Ae w
theorem Ao :∀(k n:Nat),(Ae k n).length=k
 |0,_=>rfl|k+1,n=>by simp[Ae,Ao k]
theorem H8 (w:Nat):∀(ns:List Nat),(E1 w ns).length=ns.length*w
 | []=>by simp[E1]|n::r=>by have:=H8 w r;grind[E1,Ao]
theorem A6m {n j:Nat}(hj:j≤7):AVal.int .u8 (IntKind.u8.wrap<|(n:Int).fdiv<|2^(min ((8*j:Nat):Int).toNat 64))= .int .u8 ((UInt8.ofNat<|n/256^j).toNat:Nat):=by
 have h1:min (((8*j:Nat):Int).toNat) 64=8*j:=L2;have h2:((n:Int).fdiv<|2^(8*j))=((n/256^j:Nat):Int):=by
  have:(2:Nat)^(8*j)=256^j:=by rw[Nat.pow_mul]
  grind
 grind[UInt8.toNat_ofNat',IntKind.wrap_u8]
end Go.Abs
namespace Go.Abs
open Go.RowKit
variable {H : Hz} {n : Nat}
mutual
theorem Oh : ∀ (v : AVal), blw 0 v = true → ∃ k, ∀ m, k ≤ m → frz H n m v = some v
  | .agg cs, h => by
    obtain ⟨k, hk⟩ := J9 cs h
    exact ⟨k + 1, fun m hm => by cases m <;> grind [frz]⟩
  | .tup cs, h => by
    obtain ⟨k, hk⟩ := J9 cs h
    exact ⟨k + 1, fun m hm => by cases m <;> grind [frz]⟩
  | .row _ cs, h => by
    obtain ⟨k, hk⟩ := J9 cs h
    exact ⟨k + 1, fun m hm => by cases m <;> grind [frz]⟩
  | .hsl _ id _ _ _, h => A27
  | .ptr id _, h => A27
  | .mref id, h => A27
  | .optr id _ _, h => A27
  | .eptr e _, h => by
    obtain ⟨k, hk⟩ := Oh e h
    exact ⟨k + 1, fun m hm => by cases m <;> grind [frz]⟩
  | .fn _ a c, h => by
    simp only [blw] at h
    cases ha : Ab 0 a with
    | false => rw [ha] at h; cases h
    | true =>
      rw [ha] at h
      obtain ⟨k, hk⟩ := J9 a ha
      obtain ⟨j, hj⟩ := J9 c h
      exact ⟨k + j + 1, fun m hm => by cases m <;> grind [frz]⟩
  | .iface _ x, h => by
    obtain ⟨k, hk⟩ := Oh x h
    exact ⟨k + 1, fun m hm => by cases m <;> grind [frz]⟩
  | .bool _, _ | .int _ _, _ | .str _, _ | .nilSl, _ | .emp, _ | .nilPtr, _ | .nilFn, _ | .nilMp, _ | .nilIf, _ => ⟨1, fun m hm => by cases m with | zero => omega | succ m => rfl⟩
theorem J9 : ∀ (l : List AVal), Ab 0 l = true → ∃ k, ∀ m, k ≤ m → Gv H n m l = some l
  | [], _ => ⟨1, fun m hm => by cases m with | zero => omega | succ m => rfl⟩
  | v :: r, h => by
    simp only [Ab] at h
    cases hv : blw 0 v with
    | false => rw [hv] at h; cases h
    | true =>
      rw [hv] at h
      obtain ⟨k, hk⟩ := Oh v hv
      obtain ⟨j, hj⟩ := J9 r h
      exact ⟨k + j + 1, fun m hm => by cases m <;> grind [Gv]⟩
end
theorem Bg {v:AVal}(h:blw 0 v=true):FzV H n v v:=by obtain⟨k,hk⟩:=Oh (H:=H) (n:=n) v h;exact .inl ⟨k,hk k<|Nat.le_refl _⟩
mutual
theorem A0y {i : Nat} : ∀ (v : AVal), blw 0 v = true → noId i v = true
  | .agg cs, h => Hy cs h
  | .tup cs, h => Hy cs h
  | .row _ cs, h => Hy cs h
  | .hsl _ id _ _ _, h => A27
  | .ptr id _, h => A27
  | .mref id, h => A27
  | .optr id _ _, h => A27
  | .eptr e _, h => A0y e h
  | .fn _ a c, h => by
    simp only [blw] at h
    cases ha : Ab 0 a with
    | false => rw [ha] at h; cases h
    | true => rw [ha] at h; simp only [noId, Hy a ha, cond_true]; exact Hy c h
  | .iface _ x, h => A0y x h
  | .bool _, _ | .int _ _, _ | .str _, _ | .nilSl, _ | .emp, _ | .nilPtr, _ | .nilFn, _ | .nilMp, _ | .nilIf, _ => rfl
theorem Hy {i : Nat} : ∀ (l : List AVal), Ab 0 l = true → Nn i l = true
  | [], _ => rfl
  | v :: r, h => by
    simp only [Ab] at h
    cases hv : blw 0 v with
    | false => rw [hv] at h; cases h
    | true => rw [hv] at h; simp only [Nn, A0y v hv, cond_true]; exact Hy r h
end
end Go.Abs
namespace Go.Abs
open Go.RowKit Go.Proofs
variable {P : Program} {W0 : World} {F : Nat → Prop} {bs : List Nat} {H : Hz} {w : World}
def A8o (P:Program)(f:Nat):Bool:=match P.funcs[f]? with|some fn=>fn.body.isSome&& !(fn.name== "runtime.NumGoroutine")|none=>false
theorem Ez {f:Nat}(h:A8o P f=true):Ed P f:=by
 unfold A8o at h;split at h;·rename_i fn hf;simp only[bAt,Bool.not_eq_true',bFn]at h;obtain⟨c,hc⟩:=Option.isSome_iff_exists.1 h.1;exact⟨fn,c,hf,hc,h.2⟩
 ·cases h
theorem A7w {w':World}(hb:Below w.heap.size w w')(hl:∀(i:Nat) (o:HObj),H[i]?=some o→∀b,bs[i]?=some b→b<w.heap.size):Ext bs H w bs H w':=by refine⟨hb.size,λk hk _=>hb.block k hk,λk hk=>.inl hk,λi o ho=>⟨o,ho,?_⟩⟩;cases o with|dead=>simp[Bd]|iter s p=>exact .inr ⟨s,p,rfl,rfl⟩|mp es=>exact .inr ⟨es,rfl,rfl⟩|cells T cs op=>cases op with|false=>exact .inr ⟨T,cs,rfl,rfl,rfl⟩|true=>refine .inr ⟨T,cs,Z,.inr ⟨Z,Z,λb hbb=>?_⟩⟩;have:=hb.block b<|hl i _ ho b hbb;unfold D4;rw[this]
theorem Ad.below {w':World}(hh:Ad W0 F bs H w)(hb:Below w.heap.size w w'):Ad W0 F bs H w'∧Ext bs H w bs H w':=by
 have he:Ext bs H w bs H w':=A7w hb<|λi o ho b hbb=>(hh.low b<|mGe hbb).2;have h0:W0.heap.size≤w.heap.size:=hh.base.size;refine⟨⟨hh.len,hh.base.trans ⟨hb.os,hb.tape,hb.output,hb.size,λk hk=>hb.block k Y⟩,λb hbm=>⟨(hh.low b hbm).1,nLl (hh.low b hbm).2 hb.size⟩,hh.nodup,λb hF=>⟨(hh.forb b hF).1,nLl (hh.forb b hF).2.1 hb.size,(hh.forb b hF).2.2⟩,λi o b ho hbb=>?_⟩,he⟩;have hlt:=(hh.low b<|mGe hbb).2;have hblk:=hb.block b hlt;have h1:=hh.obj i o b ho hbb;cases o with
 |dead=>trivial|iter s p=>simp only[Ik]at h1⊢;rw[hblk];exact h1|mp es=>simp only[Ik]at h1⊢;rw[hblk];exact h1
 |cells T cs op=>
  cases op with
  |false=>simp only[Ik]at h1⊢;obtain⟨vs,rest,fr,q1,q2,q3⟩:=h1;exact⟨vs,rest,fr,by grind,Aa.ext he _ _ q2,q3⟩
  |true=>simp only[Ik]at h1⊢;obtain⟨vs,rest,fr,q1,q2,q3⟩:=h1;exact⟨vs,rest,fr,by grind,Aa.ext he _ _ q2,q3⟩
theorem A5.of_below {f:Nat}{args:List AVal}{v:AVal}(hb:A8o P f=true)
 (h:∀(F:Nat→Prop) (bs:List Nat) (w:World) (cargs:List Value),Ad W0 F bs H w→Aa F bs H w args cargs→Calls P f cargs.toArray w λe w'=>∃cv,e= .returned cv∧Rep F bs H w' v cv∧Below w.heap.size w w'):A5 P W0 f args H v H:=by
 refine⟨Ez hb,λF bs w cargs hh hr=>(h F bs w cargs hh hr).mono ?_⟩;rintro e w' ⟨cv,rfl,h1,h2⟩;obtain⟨k1,k2⟩:=hh.below h2;grind
theorem Tz (w:World):∀n,Below w.heap.size w (w.drewN n)
 |0=>Below.refl _ _|n+1=>(Tz w n).drew
theorem A3v {W w':World}(h:Below W.heap.size W w')(os:Array Obj):Below W.heap.size W (Go.Sort.grow w' os):=by refine⟨h.os,h.tape,h.output,Nat.le_trans h.size (by simp_all),λk hk=>?_⟩;rw[←h.block k hk];have:k<w'.heap.size:=nLl hk h.size;simp[Go.Sort.grow,Array.getElem?_append,this]
theorem A5x (hh:Ad W0 F bs H w){g3 g4:Nat}(hT:Lib.Utf8Tabs g3 g4 W0):Lib.Utf8Tabs g3 g4 w:=Utf8Tabs_below hT hh.base
theorem Vh (hh:Ad W0 F bs H w){g:Nat}{v:Value}(h:W0.cell? ⟨g,0,none⟩=some v):w.cell? ⟨g,0,none⟩=some v:=by rw[←h];exact World.cell?_of_block (a:=⟨g,0,none⟩)<|hh.base.block g<|World.block_lt_of_cell? W0 ⟨g,0,none⟩ h
def Uu :AVal→Bool
 |.bool _|.int _ _|.str _=>true|_=>false
def expo (H:Hz):AVal→Option AVal
 |.ptr id off=>match H[id]? with
  |some (.cells _ cs false)=>match cs[off]? with
   |some c=>cond (Uu c) (some<|.eptr c 0) none|none=>none
  |_=>none
 |v=>cond (Uu v) (some v) none
def Xd (H:Hz):List AVal→Option (List AVal)
 | []=>some []
 |v::r=>match expo H v with
  |some x=>match Xd H r with
   |some l=>some (x::l)|none=>none
  |none=>none
theorem expo_ok (hh:Ad W0 F bs H w){v v':AVal}{cv:Value}(hv:Rep F bs H w v cv)(he:expo H v=some v'):Rep (λ_=>False) [] [] w v' cv:=by
 have flat:∀{x:AVal},Uu x=true→Rep F bs H w x cv→Rep (λ_=>False) [] [] w x cv:=by intro x hx hr;cases x<;>simp only[Uu,bFt]at hx<;>simpa only[Rep]using hr
 by_cases hp:∃id off,v= .ptr id off
 ·obtain⟨id,off,rfl⟩:=hp;simp only[expo]at he;split at he
  ·rename_i T cs ho;split at he
   ·rename_i c hc;cases hf:Uu c with
    |false=>rw[hf]at he;cases he
    |true=>
     rw[hf]at he;simp only[cond_true,iS]at he;subst he;simp only[Rep,Ey,ho]at hv;obtain⟨_,b,hb,rfl⟩:=hv;have hlow:=hh.low b<|mGe hb;obtain⟨vs,rest,fr,hcell,hl,_⟩:=hh.obj id _ b ho hb;obtain⟨u,hu,hru⟩:=Aa.get hl hc;simp only[Rep];refine⟨b,off,u,Z,?_,⟨Ax,Ax⟩,hlow.2,λj x hx=>?_⟩;·cases c<;>simp only[Uu,bFt]at hf<;>simpa only[Rep]using hru
     ·have hone:u.cells.toList=[u]:=by cases c<;>simp only[Uu,bFt]at hf<;>simp only[Rep]at hru<;>subst hru<;>rfl
      grind[U5]
   ·cases he
  ·cases he
 ·have:expo H v=cond (Uu v) (some v) none:=by cases v<;>first|rfl|exact absurd ⟨_,_,rfl⟩ hp
  grind
theorem A24 (hh:Ad W0 F bs H w):∀{vs vs':List AVal}{cvs:List Value},Aa F bs H w vs cvs→Xd H vs=some vs'→Aa (λ_=>False) [] [] w vs' cvs
 | [],vs',cvs,hv,he=>by grind[Xd,Aa]
 |v::r,vs',cvs,hv,he=>by
  simp only[Xd]at he;split at he
  ·rename_i x hx;split at he;·rename_i l hl;injection he with he;subst he;simp only[Aa]at hv⊢;obtain⟨u,us,rfl,h1,h2⟩:=hv;exact⟨u,us,Z,expo_ok hh h1 hx,A24 hh h2 hl⟩
   ·cases he
  ·cases he
theorem Ad.none (W:World):Ad W (λ_=>False) [] [] W:=⟨rfl,Below.refl _ _,λb h=>by simp at h,List.nodup_nil,λb h=>h.elim,λi o b h=>by simp at h⟩
theorem A1o {g:Nat}(h:A8o P g=true):∀args w,(callFunc g args).run P w= .ok (.enter g args) w:=by obtain⟨fn,c,h1,h2,h3⟩:=Ez h;simp_all[callFunc]
theorem A39 (hh:Ad W0 F bs H w){g:Nat}{caps caps':List AVal}{lb:List Value}{f:Int→Int}(hl:Aa F bs H w caps lb)(he:Xd H caps=some caps')
 (hf:∀(W:World) (x:Nat),x≤1114111→A5 P W g (.int .i32 x::caps') [] (.int .i32<|f x) []):MapGrows P g lb.toArray f w:=by
 intro W x hx hb;have hl':=A24 hh hl he;have hW:Ext ([]:List Nat) ([]:Hz) w [] [] W:=⟨hb.size,λk hk _=>hb.block k hk,λk h=>.inl h,λi o h=>by simp at h⟩;have hl2:=Aa.extF (F':=λ_=>False) hW (λ_ _ _ h=>h) caps' lb hl';have h1:=(hf W x hx).2 (λ_=>False) [] W (.int .i32 x::lb) (Ad.none W) (by grind[Aa,Rep]);have harr:(Value.int .i32 (x:Int)::lb).toArray= #[encR x]++lb.toArray:=by grind
 rw[harr]at h1;refine h1.mono ?_;rintro e w' ⟨cv,bs',rfl,k1,k2,k3⟩;simp only[Rep]at k1;subst k1;exact⟨Z,k2.base⟩
def asc (l:Bz):Bool:=l.all λb=>Nat.blt b.toNat 128
def A13 (f:Int→Int)(l:Bz):Bz:=l.map λb=>(f (b.toNat:Nat)).toNat.toUInt8
theorem Adp {f:Int→Int}:∀(l:Bz),asc l=true→(∀b∈l,0≤f (b.toNat:Nat)∧f (b.toNat:Nat)<128)→Lib.mapD f l=A13 f l:=by
 have go:∀(n:Nat) (l:Bz),l.length≤n→asc l=true→(∀b∈l,0≤f (b.toNat:Nat)∧f (b.toNat:Nat)<128)→Lib.mapGoD f n l=A13 f l:=by intro n;induction n with|zero=>intro l hl _ _;have:l=[]:=List.eq_nil_of_length_eq_zero Y;subst this;rfl|succ n ih=>intro l hl ha hf;cases l with|nil=>rfl|cons b r=>simp only[asc,List.all_cons,bAt,Nat.blt_eq]at ha;have h1:=hf b Ax;unfold Lib.mapGoD;rw[if_neg Ax,Lib.decodeL_ascii b r ha.1,if_pos h1.1];show Lib.encodeRune (f (b.toNat:Nat))++Lib.mapGoD f n r=_;rw[ih r (by grind) ha.2<|λb hb=>hf b (by simp[hb])];simp only[A13,List.map_cons,Lib.encodeRune,Lib.encodeRuneZ_one h1.1 Y,List.map_cons,List.map_nil,List.cons_append,List.nil_append]
 intro l;exact go _ l<|Nat.le_refl _
def K1 :List AVal→Option (List Bz)
 | []=>some []
 |.str s::r=>match K1 r with
  |some l=>some (s::l)|none=>none
 |_=>none
theorem Zg :∀{ys:List AVal}{l:List Bz}{us:List Value},K1 ys=some l→Aa F bs H w ys us→us=l.map λs=>Value.string ⟨s.toArray⟩
 | [],l,us,h,hr=>by grind[K1,Aa]
 |y::r,l,us,h,hr=>by
  cases y<;>simp only[K1,reduceCtorEq]at h;rename_i s;split at h;·rename_i l' hl;injection h with h;subst h;simp only[Aa,Rep]at hr;obtain⟨u,us',rfl,rfl,h2⟩:=hr;rw[Zg hl h2];rfl
  ·cases h
theorem A5j (hh:Ad W0 F bs H w){k:Nat}{y:AVal}{ys:List AVal}{m c:Nat}{a:Addr}(hy:Rep F bs H w y<|.slice (some a) m c)(h:D6 k H y=some (ys,m))(hm:m≠0):a.spot=none∧m≤c:=by
 cases y<;>simp only[D6]at h<;>try (cases h;done)
 case nilSl=>grind
 case emp=>grind
 case row k' es=>
  cases hk:Nat.beq k k' with
  |false=>rw[hk]at h;cases h
  |true=>simp only[Rep]at hy;obtain⟨a',cap,vs,he,hl,hk,hrow⟩:=hy;injection he with e1 e2 e3;subst e1;subst e3;have:=hl.length;exact⟨hrow.1,by have:=hrow.2.1;omega⟩
 case hsl k' id off len cap=>
  cases hk:Nat.beq k k' with
  |false=>rw[hk]at h;cases h
  |true=>
   rw[hk]at h;have:=nBq hk;subst this;simp only[cond_true]at h;simp only[Rep]at hy;obtain⟨_,hy⟩:=hy;unfold Ce at hy;split at h;·grind
   ·rename_i T cs ho;cases hc:(Nat.beq (len*k) cs.length&&Nat.beq off 0)with
    |false=>rw[hc]at h;cases h
    |true=>rw[hc]at h;simp only[bAt]at hc;have h1:=nBq hc.1;have h2:=nBq hc.2;subst h2;simp only[cond_true,iS,iP]at h;obtain⟨rfl,rfl⟩:=h;rw[ho]at hy;obtain⟨b,c',hb,he,hlc,_⟩:=hy.2<|λ_=>⟨rfl,h1⟩;injection he with e1 e2 e3;injection e1 with e1;subst e1;subst e3;exact⟨Z,hlc⟩
   ·cases h
def Rt :Bz→UInt8→Int
 | [],_=>-1|b::r,c=>cond (decide<|0≤Rt r c) (Rt r c+1)<|cond (Nat.beq b.toNat c.toNat) 0<|-1
theorem W8 (c:UInt8):∀l:Bz,(Rt l c=-1∧c∉l)∨∃i:Nat,Rt l c=i∧l[i]?=some c∧∀j,i<j→l[j]?≠some c
 | []=>.inl ⟨rfl,Ax⟩
 |b::r=>by
  rcases W8 c r with⟨h1,h2⟩|⟨i,h1,h2,h3⟩
  ·simp only[Rt,h1];have:decide ((0:Int)≤-1)=false:=V;rw[this,cond_false];cases hb:Nat.beq b.toNat c.toNat with
   |true=>have hbc:b=c:=UInt8.toNat_inj.1<|nBq hb;subst hbc;refine .inr ⟨0,Z,Ax,λj hj=>?_⟩;cases j with|zero=>omega|succ j=>simp only[List.getElem?_cons_succ];intro e;exact h2<|mGe e
   |false=>refine .inl ⟨Z,?_⟩;simp only[List.mem_cons,not_or];refine⟨λe=>?_,h2⟩;subst e;simp at hb
  ·refine .inr ⟨i+1,?_,by grind,λj hj=>?_⟩<;>grind[Rt]
end Go.Abs
namespace Go.Abs
open Go.RowKit
def Ud (P:Program)(g:FuncId)(m:Nat):Prop:=∀(args:List Value) (w:World),args.length=m→CallsD P g args.toArray .returning w λe u' w'=>e= .returned (.tuple #[])∧u'= .returning∧w'=w
section
variable {P : Program} {W0 : World} {G : List (Nat × AVal)} {F : Nat → Prop} {bs : List Nat} {s : St} {a : Act} {w : World}
theorem A34 (hg:GOK W0 G){id t:Nat}{g:FuncId}{ops:Array Oper}{o0 o1:Oper}(hops:ops= #[o0,o1])(h1g:o1.guard=none)(h1d:o1.dst=none)(h1c:∃c,o1.op= .defer c∧c.callee= .value (.tmp t)∧c.args= #[])
 (hs:RS W0 F bs s a w) {K:St→Prop}{m:Nat} (h0:Iu P W0 G ops o0 s λs'=>(∃c,s'.env.get t=some (.fn g [] c)∧c.length=m)∧K s') {Q:Exit→Act→World→Prop}
 (hn:∀s' bs' a' w' (cap:List Value),cap.length=m→K s'→RS W0 F bs' s' a' w'→Ext bs s.H w bs' s'.H w'→a'.defers=⟨.fn (.func g) cap.toArray,#[]⟩::a.defers→Q .normal a' w'):(Code.region id ops false).wp P Q a w:=by
 refine wp_region ?_;subst hops;have hr:List.range (#[o0,o1]:Array Oper).size=[0,1]:=rfl;rw[hr];simp only[wpOps,List.getElem?_toArray,List.getElem?_cons_zero,List.getElem?_cons_succ];refine Ir hg hs h0 λs' bs' a' w' hk hrs hext hdf=>?_;obtain⟨⟨c,hc,hcl⟩,hK⟩:=hk;have hrep:=hrs.env t _ hc;simp only[Rep,Aa]at hrep;obtain⟨fs,cs,hv,rfl,hcs⟩:=hrep;obtain⟨cl,hop,hcal,hargs⟩:=h1c;have hw:Region.wanted o1 (yielded #[o0,o1] a'.tmps)=true:=by simp[Region.wanted,h1g]
 rw[if_pos hw];refine .inl ?_;have hexec:(execOp a'.eval o1).run P w'= .ok (.defer ⟨.fn (.func g) cs.toArray,#[]⟩) w':=by
  have hev:a'.eval (.tmp t)= .func (.func g) #[] cs.toArray:=by show a'.tmps.getD t undef=_;exact hv
  simp_all[execOp,resolve,Deferred.ofValue]
 unfold Oper.wp;rw[hexec,Oper.upon_defer];have hput:({a' with defers:=⟨.fn (.func g) cs.toArray,#[]⟩::a'.defers}:Act).put o1.dst undef={a' with defers:=⟨.fn (.func g) cs.toArray,#[]⟩::a'.defers}:=by rw[h1d];rfl
 rw[hput];refine hn s' bs' _ w' cs (by rw[hcs.length,hcl]) hK ⟨hrs.heap,hrs.size,hrs.env⟩ hext ?_;grind
theorem A5.of_defer (hg:GOK W0 G){f:FuncId}{fn:Func}{r0 r1 rest:Code}{id t:Nat}{g:FuncId}{ops:Array Oper}{o0 o1:Oper}(hf:P.funcs[f]?=some fn)(hb:fn.body=some (.seq r0<|.seq r1<|.seq (.region id ops false) rest))
 (hnm:fn.name≠ "runtime.NumGoroutine") {m:Nat} (hidle:Ud P g m) (hgb:Ed P g)
 (hops:ops= #[o0,o1]) (h1g:o1.guard=none) (h1d:o1.dst=none) (h1c:∃c,o1.op= .defer c∧c.callee= .value (.tmp t)∧c.args= #[])
 {args:List AVal}{H:Hz}{v:AVal}{H':Hz} (hl:args.length≤4094)
 (h:Ex P W0 r0 ⟨Fv 0 args .leaf,H,args.length+(fn.ntmps-args.length)⟩ λe s0=>e= .normal∧Ex P W0 r1 s0 λe s1=>e= .normal∧Iu P W0 G ops o0 s1 λs2=>(∃c,s2.env.get t=some (.fn g [] c)∧c.length=m)∧
  Ex P W0 rest s2 λe s'=>(match e with|.exit _=>False|_=>True)∧∃vs,Dx P s' fn.results.toList=some vs∧(L5 H.length (C9 vs) s'.H=(v,H')∨(C9 vs,s'.H)=(v,H'))):
 A5 P W0 f args H v H':=by
 refine⟨⟨fn,_,hf,hb,hnm⟩,λF bs w cargs hh hr=>?_⟩;refine calls_of_wp_defers hf hb ?_;refine wp_seq<|h F bs _ w (G7 hh hr hl fn.ntmps) _ λe s0 bs0 a0 w0 hk hrs0 hext0 hd0=>?_;obtain⟨rfl,hk⟩:=hk;show(Code.seq r1 _).wp P _ a0 w0;refine wp_seq<|hk F bs0 a0 w0 hrs0 _ λe s1 bs1 a1 w1 hk hrs1 hext1 hd1=>?_;obtain⟨rfl,hk⟩:=hk;show(Code.seq _ rest).wp P _ a1 w1;refine wp_seq<|A34 hg hops h1g h1d h1c hrs1 hk λs2 bs2 a2 w2 cap hcap hk hrs2 hext2 hd2=>?_;show rest.wp P _ a2 w2;refine hk F bs2 a2 w2 hrs2 _ λe s' bs' a' w' hk hrs hext hd=>?_;obtain⟨hne,vs,hvs,hlv⟩:=hk;obtain⟨cv,h1,h2⟩:=G5 hrs hvs;have hextA:Ext bs H w bs' s'.H w':=((hext0.trans hext1).trans hext2).trans hext;have hlast:∃bs'',Rep F bs'' H' w' v cv∧Ad W0 F bs'' H' w'∧Ext bs H w bs'' H' w':=by
  rcases hlv with hlv|hlv;·obtain⟨bs'',h3,h4,h5⟩:=R1 hrs.heap hextA h2;grind
  ·injection hlv with e1 e2;subst e1;subst e2;exact⟨bs',h2,hrs.heap,hextA⟩
 obtain⟨bs'',h3,h4,h5⟩:=hlast;have hdef:a'.defers=[⟨.fn (.func g) cap.toArray,#[]⟩]:=by grind
 have hinv:(invoke (.fn (.func g) cap.toArray) #[]).run P w'= .ok (.enter g cap.toArray) w':=by obtain⟨fg,cg,k1,k2,k3⟩:=hgb;show(callFunc g<|#[]++cap.toArray).run P w'=_;simp_all[callFunc]
 have fin:Leaves P fn a'.tmps (λe w'=>∃cv bs',e= .returned cv∧Rep F bs' H' w' v cv∧Ad W0 F bs' H' w'∧Ext bs H w bs' H' w') a'.defers .returning w':=by rw[hdef];refine⟨by simp,.func g,cap.toArray,g,cap.toArray,rfl,hinv,?_⟩;refine(hidle cap w' hcap).mono ?_;rintro e u' w'' ⟨rfl,rfl,rfl⟩;exact⟨cv,h1,cv,bs'',rfl,h3,h4,h5⟩
 cases e with|normal=>exact fin|ret=>exact fin|exit id=>exact hne.elim
theorem A5.of_defer1 (hg:GOK W0 G){f:FuncId}{fn:Func}{r0 rest:Code}{id t:Nat}{g:FuncId}{ops:Array Oper}{o0 o1:Oper}(hf:P.funcs[f]?=some fn)(hb:fn.body=some (.seq r0<|.seq (.region id ops false) rest))
 (hnm:fn.name≠ "runtime.NumGoroutine") {m:Nat} (hidle:Ud P g m) (hgb:Ed P g)
 (hops:ops= #[o0,o1]) (h1g:o1.guard=none) (h1d:o1.dst=none) (h1c:∃c,o1.op= .defer c∧c.callee= .value (.tmp t)∧c.args= #[])
 {args:List AVal}{H:Hz}{v:AVal}{H':Hz} (hl:args.length≤4094)
 (h:Ex P W0 r0 ⟨Fv 0 args .leaf,H,args.length+(fn.ntmps-args.length)⟩ λe s1=>e= .normal∧Iu P W0 G ops o0 s1 λs2=>(∃c,s2.env.get t=some (.fn g [] c)∧c.length=m)∧
  Ex P W0 rest s2 λe s'=>(match e with|.exit _=>False|_=>True)∧∃vs,Dx P s' fn.results.toList=some vs∧(L5 H.length (C9 vs) s'.H=(v,H')∨(C9 vs,s'.H)=(v,H'))):
 A5 P W0 f args H v H':=by
 refine⟨⟨fn,_,hf,hb,hnm⟩,λF bs w cargs hh hr=>?_⟩;refine calls_of_wp_defers hf hb ?_;refine wp_seq<|h F bs _ w (G7 hh hr hl fn.ntmps) _ λe s1 bs1 a1 w1 hk hrs1 hext1 hd1=>?_;obtain⟨rfl,hk⟩:=hk;show(Code.seq _ rest).wp P _ a1 w1;refine wp_seq<|A34 hg hops h1g h1d h1c hrs1 hk λs2 bs2 a2 w2 cap hcap hk hrs2 hext2 hd2=>?_;show rest.wp P _ a2 w2;refine hk F bs2 a2 w2 hrs2 _ λe s' bs' a' w' hk hrs hext hd=>?_;obtain⟨hne,vs,hvs,hlv⟩:=hk;obtain⟨cv,h1,h2⟩:=G5 hrs hvs;have hextA:Ext bs H w bs' s'.H w':=(hext1.trans hext2).trans hext;have hlast:∃bs'',Rep F bs'' H' w' v cv∧Ad W0 F bs'' H' w'∧Ext bs H w bs'' H' w':=by
  rcases hlv with hlv|hlv;·obtain⟨bs'',h3,h4,h5⟩:=R1 hrs.heap hextA h2;grind
  ·injection hlv with e1 e2;subst e1;subst e2;exact⟨bs',h2,hrs.heap,hextA⟩
 obtain⟨bs'',h3,h4,h5⟩:=hlast;have hdef:a'.defers=[⟨.fn (.func g) cap.toArray,#[]⟩]:=by grind
 have hinv:(invoke (.fn (.func g) cap.toArray) #[]).run P w'= .ok (.enter g cap.toArray) w':=by obtain⟨fg,cg,k1,k2,k3⟩:=hgb;show(callFunc g<|#[]++cap.toArray).run P w'=_;simp_all[callFunc]
 have fin:Leaves P fn a'.tmps (λe w'=>∃cv bs',e= .returned cv∧Rep F bs' H' w' v cv∧Ad W0 F bs' H' w'∧Ext bs H w bs' H' w') a'.defers .returning w':=by rw[hdef];refine⟨by simp,.func g,cap.toArray,g,cap.toArray,rfl,hinv,?_⟩;refine(hidle cap w' hcap).mono ?_;rintro e u' w'' ⟨rfl,rfl,rfl⟩;exact⟨cv,h1,cv,bs'',rfl,h3,h4,h5⟩
 cases e with|normal=>exact fin|ret=>exact fin|exit id=>exact hne.elim
end
structure DB where
 r0:Code
 r1:Code
 id:Nat
 o0:Oper
 o1:Oper
 rest:Code
 t:Nat
 g:Nat
 m:Nat
def Zz (t:Nat)(o:Oper):Bool:=
 match o.op with
 |.defer c=>match c.callee with
  |.value (.tmp u)=>Nat.beq t u&&Nat.beq c.args.size 0|_=>false
 |_=>false
def Xp (idle:Nat→Option Nat)(r0 r1:Code)(id:Nat)(rest:Code):List Oper→Option DB
 | [o0,o1]=>match o0.op with
  |.makeFunc (.func g) _ _=>match o0.dst with
   |some t=>match o1.guard with
    |none=>match o1.dst with
     |none=>match idle g with
      |some m=>cond (Zz t o1) (some ⟨r0,r1,id,o0,o1,rest,t,g,m⟩) none|none=>none
     |some _=>none
    |some _=>none
   |none=>none
  |_=>none
 |_=>none
def Oz (idle:Nat→Option Nat):Code→Option DB
 |.seq r0 (.seq r1<|.seq (.region id ops false) rest)=>Xp idle r0 r1 id rest ops.toList|_=>none
def W3 (idle:Nat→Option Nat):Code→Option DB
 |.seq r0 (.seq (.region id ops false) rest)=>Xp idle r0 .skip id rest ops.toList|_=>none
def Ade (P:Program)(G:List<|Nat×AVal)(call:CallF)(draw:Array Oper→St→Option St)(fuel:Nat)(b:DB)(s:St):Option (Ai×St):=
 match V0 P G call draw fuel b.r0 s with
 |some (.normal,s1)=>match A2y P G call #[b.o0,b.o1] b.o0 s1 with
  |some s2=>cond (match s2.env.get b.t with
   |some (.fn g' [] c)=>Nat.beq b.g g'&&Nat.beq c.length b.m|_=>false) (V0 P G call draw fuel b.rest s2) none
  |none=>none
 |_=>none
def A7z (e:Env)(t g m:Nat):Bool:=match e.get t with|some (.fn g' [] c)=>Nat.beq g g'&&Nat.beq c.length m|_=>false
def Ads (P:Program)(fn:Func)(kp:Bool)(H:Hz):Option (Ai×St)→Option (AVal×Hz)
 |some (e,s)=>match e with
  |.exit _=>none
  |_=>match Dx P s fn.results.toList with
   |some vs=>some (cond kp (C9 vs,s.H)<|L5 H.length (C9 vs) s.H)|none=>none
 |none=>none
def runDB (P:Program)(G:List<|Nat×AVal)(call:CallF)(draw:Array Oper→St→Option St)(fuel:Nat)(b:DB)(s:St):Option (Ai×St):=
 match V0 P G call draw fuel b.r0 s with
 |some (.normal,s0)=>match V0 P G call draw fuel b.r1 s0 with
  |some (.normal,s1)=>match A2y P G call #[b.o0,b.o1] b.o0 s1 with
   |some s2=>cond (A7z s2.env b.t b.g b.m) (V0 P G call draw fuel b.rest s2) none|none=>none
  |_=>none
 |_=>none
def Io (P:Program)(G:List<|Nat×AVal)(keep:Nat→Bool)(idle:Nat→Option Nat)(tab:CallF)(draw:CallF→Array Oper→St→Option St)(fuel:Nat):Nat→CallF
 |0,_,_,_=>none
 |d+1,f,args,H=>match tab f args H with
  |some r=>some r
  |none=>match P.funcs[f]? with
   |some fn=>match fn.body with
    |some c=>cond (Nat.ble args.length 4094&& !(fn.name== "runtime.NumGoroutine")) (Ads P fn (keep f) H (match Oz idle c with
     |some b=>runDB P G (Io P G keep idle tab draw fuel d) (draw<|Io P G keep idle tab draw fuel d) fuel b ⟨Fv 0 args .leaf,H,args.length+(fn.ntmps-args.length)⟩
     |none=>match W3 idle c with
      |some b=>Ade P G (Io P G keep idle tab draw fuel d) (draw (Io P G keep idle tab draw fuel d)) fuel b ⟨Fv 0 args .leaf,H,args.length+(fn.ntmps-args.length)⟩|none=>V0 P G (Io P G keep idle tab draw fuel d) (draw (Io P G keep idle tab draw fuel d)) fuel c ⟨Fv 0 args .leaf,H,args.length+(fn.ntmps-args.length)⟩)) none
    |none=>none
   |none=>none
theorem Wa {idle:Nat→Option Nat}{r0 r1:Code}{id:Nat}{rest:Code}{l:List Oper}{b:DB}(h:Xp idle r0 r1 id rest l=some b):
 b.r0=r0∧b.r1=r1∧b.id=id∧b.rest=rest∧l=[b.o0,b.o1]∧b.o1.guard=none∧b.o1.dst=none∧(∃c,b.o1.op= .defer c∧c.callee= .value (.tmp b.t)∧c.args= #[])∧idle b.g=some b.m:=by
 unfold Xp at h;split at h
 ·rename_i o0 o1;split at h
  ·split at h
   ·rename_i t _;split at h
    ·rename_i hg;split at h
     ·rename_i hd;split at h
      ·rename_i m hm;cases hc:Zz t o1 with
       |false=>rw[hc]at h;cases h
       |true=>
        rw[hc,cond_true]at h;injection h with h;subst h;refine⟨rfl,rfl,rfl,rfl,rfl,hg,hd,?_,hm⟩;unfold Zz at hc;split at hc;·rename_i c hop;split at hc<;>simp_all
        ·cases hc
      ·cases h
     ·cases h
    ·cases h
   ·cases h
  ·cases h
 ·cases h
theorem Rj {P:Program}{W0:World}{G:List (Nat×AVal)}(hg:GOK W0 G){idle:Nat→Option Nat}(hi:∀g m,idle g=some m→Ud P g m∧Ed P g){tab:CallF}(ht:E6 P W0 tab){draw:CallF→Array Oper→St→Option St}
 (hdr:∀call,E6 P W0 call→A49 P W0 (draw call)) {keep:Nat→Bool} (fuel:Nat):∀d,E6 P W0<|Io P G keep idle tab draw fuel d
 |0,_,_,_,_,_,h=>by cases h
 |d+1,f,args,H,v,H',h=>by
  have ih:=Rj hg hi ht hdr (keep:=keep) fuel d;simp only[Io]at h;split at h;·rename_i r hr;injection h with h;subst h;exact ht _ _ _ _ _ hr
  ·split at h
   ·rename_i fn hfn;split at h
    ·rename_i c hc;cases hla:(Nat.ble args.length 4094&& !(fn.name== "runtime.NumGoroutine"))with
     |false=>rw[hla]at h;cases h
     |true=>
      rw[hla,cond_true]at h;simp only[bAt,Bool.not_eq_true',bFn]at hla;have hlen:=Nat.le_of_ble_eq_true hla.1;have post:∀{e:Ai}{s:St},Ads P fn (keep f) H (some (e,s))=some (v,H')→(match e with|.exit _=>False|_=>True)∧∃vs,Dx P s fn.results.toList=some vs∧(L5 H.length (C9 vs) s.H=(v,H')∨(C9 vs,s.H)=(v,H')):=by intro e s h;unfold Ads at h;grind
      split at h
      ·rename_i b hb;have hsh:∃r0 r1 id ops rest,c= .seq r0 (.seq r1<|.seq (.region id ops false) rest)∧Xp idle r0 r1 id rest ops.toList=some b:=by unfold Oz at hb;grind
       obtain⟨r0,r1,id,ops,rest,rfl,hb⟩:=hsh;obtain⟨k1,k2,k3,k4,k5,k6,k7,k8,k9⟩:=Wa hb;obtain⟨hidle,hgb⟩:=hi _ _ k9;subst k1;subst k2;subst k3;subst k4;have hops:ops= #[b.o0,b.o1]:=by grind
       unfold runDB at h;split at h
       ·rename_i s0 he0;split at h
        ·rename_i s1 he1;split at h
         ·rename_i s2 he2;cases hfa:A7z s2.env b.t b.g b.m with
          |false=>rw[hfa]at h;cases h
          |true=>
           rw[hfa,cond_true]at h;cases hex:V0 P G (Io P G keep idle tab draw fuel d) (draw<|Io P G keep idle tab draw fuel d) fuel b.rest s2 with
           |none=>rw[hex]at h;cases h
           |some es=>
            obtain⟨e,s⟩:=es;rw[hex]at h;refine A5.of_defer hg hfn hc hla.2 hidle hgb hops k6 k7 k8 hlen<|(Lp hg ih (hdr _ ih) fuel he0).mono ?_;rintro e1 s1' ⟨rfl,rfl⟩;refine⟨rfl,(Lp hg ih (hdr _ ih) fuel he1).mono ?_⟩;rintro e1 s1' ⟨rfl,rfl⟩;refine⟨rfl,?_⟩;rw[hops];refine Zs ih he2 ⟨?_,(Lp hg ih (hdr _ ih) fuel hex).mono ?_⟩;·unfold A7z at hfa;split at hfa<;>simp_all
            ·grind
         ·cases h
        ·cases h
       ·cases h
      ·split at h
       ·rename_i b hb;have hsh:∃r0 id ops rest,c= .seq r0 (.seq (.region id ops false) rest)∧Xp idle r0 .skip id rest ops.toList=some b:=by unfold W3 at hb;grind
        obtain⟨r0,id,ops,rest,rfl,hb⟩:=hsh;obtain⟨k1,k2,k3,k4,k5,k6,k7,k8,k9⟩:=Wa hb;obtain⟨hidle,hgb⟩:=hi _ _ k9;subst k1;subst k3;subst k4;have hops:ops= #[b.o0,b.o1]:=by grind
        unfold Ade at h;split at h
        ·rename_i s1 he1;split at h
         ·rename_i s2 he2;split at h
          ·rename_i g' c' hget;cases hfa:(Nat.beq b.g g'&&Nat.beq c'.length b.m)with
           |false=>rw[hfa]at h;cases h
           |true=>
            rw[hfa,cond_true]at h;cases hex:V0 P G (Io P G keep idle tab draw fuel d) (draw<|Io P G keep idle tab draw fuel d) fuel b.rest s2 with
            |none=>rw[hex]at h;cases h
            |some es=>
             obtain⟨e,s⟩:=es;rw[hex]at h;refine A5.of_defer1 hg hfn hc hla.2 hidle hgb hops k6 k7 k8 hlen<|(Lp hg ih (hdr _ ih) fuel he1).mono ?_;rintro e1 s1' ⟨rfl,rfl⟩;refine⟨rfl,?_⟩;rw[hops];refine Zs ih he2 ⟨?_,(Lp hg ih (hdr _ ih) fuel hex).mono ?_⟩;·simp_all
             ·grind
          ·cases h
         ·cases h
        ·cases h
       ·cases hex:V0 P G (Io P G keep idle tab draw fuel d) (draw<|Io P G keep idle tab draw fuel d) fuel c ⟨Fv 0 args .leaf,H,args.length+(fn.ntmps-args.length)⟩with
        |none=>rw[hex]at h;cases h
        |some es=>obtain⟨e,s⟩:=es;rw[hex]at h;refine A5.of_ex hfn hc hla.2 hlen<|(Lp hg ih (hdr _ ih) fuel hex).mono ?_;rintro e1 s1 ⟨rfl,rfl⟩;exact post h
    ·cases h
   ·cases h
mutual
theorem A16 : ∀ (a : AVal), ren id a = a
  | .bool _ => rfl
  | .int _ _ => rfl
  | .str _ => rfl
  | .agg cs => by simp only [ren, Ko cs]
  | .tup cs => by simp only [ren, Ko cs]
  | .nilSl => rfl
  | .emp => rfl
  | .row k es => by simp only [ren, Ko es]
  | .hsl _ _ _ _ _ => rfl
  | .nilPtr => rfl
  | .ptr _ _ => rfl
  | .optr _ _ _ => rfl
  | .eptr e _ => by simp only [ren, A16 e]
  | .fn f a c => by simp only [ren, Ko a, Ko c]
  | .nilFn => rfl
  | .nilMp => rfl
  | .iface t x => by simp only [ren, A16 x]
  | .nilIf => rfl
  | .mref _ => rfl
theorem Ko : ∀ (l : List AVal), Gn id l = l
  | [] => rfl
  | a :: l => by simp only [Gn, A16 a, Ko l]
end
theorem A5q (o:HObj):I2 id o=o:=by cases o<;>grind[I2,Ko]
theorem A3c (l:Hz):l.map (I2 id)=l:=by induction l<;>grind[A5q]
theorem A5.frame {P:Program}{W0:World}{f:FuncId}{args:List AVal}{H0 H0':Hz}{v:AVal}(hbH:B9 H0.length H0=true)(hba:Ab H0.length args=true)(hl:H0'.length=H0.length)(hc:A5 P W0 f args H0 v H0')(X:Hz):A5 P W0 f args (H0++X) v (H0'++X):=by
 have hs:Sel (List.range H0.length) H0.length H0 (H0++X) id:=by refine⟨List.nodup_range,Ax,Z,λj hj=>by simp[hj],λi hi=>?_,λj o ho=>?_⟩;all_goals grind[A5q]
 have h:=A5.ren (List.range H0.length) id hs hbH hba hl hc;rw[Ko,A16,A3c]at h;have he:F2 (List.range H0.length) H0' (H0++X)=H0'++X:=by
  apply List.ext_getElem?;intro i;by_cases hi:i<H0.length
  ·have hi':i<H0'.length:=by omega
   rw[List.getElem?_append_left hi',gGe hi'];exact Ic _ _ _ i i _ List.nodup_range (by simp[hi]) (gGe hi') L2
  grind[If]
 grind
inductive Ob where
 |eq (b c:Bool)|le (a b:Int)|call (f:Nat) (args:List AVal) (v:AVal)|callH (f:Nat) (args:List AVal) (H:Hz) (v:AVal) (H':Hz)|hp (A B:Hz)|veq (a b:AVal)
def Ob.ok (P:Program)(W0:World):Ob→Prop
 |.eq b c=>b=c|.le a b=>a≤b|.call f args v=>A5 P W0 f args [] v []|.callH f args H v H'=>A5 P W0 f args H v H'|.hp A B=>A=B|.veq a b=>a=b
structure SS where
 k:Nat
 br:List (Bool×Nat)
 sk:Nat
 sd:List Nat
 ans:List (AVal×Option Hz)
 dr:List Nat
 obs:List Ob
def decS (b:Bool)(ss:SS):Option (Bool×SS):=
 match ss.k with
 |0=>match ss.br with
  |(c,n)::r=>some (c,⟨n,r,ss.sk,ss.sd,ss.ans,ss.dr,.eq b c::ss.obs⟩)| []=>none
 |n+1=>some (b,⟨n,ss.br,ss.sk,ss.sd,ss.ans,ss.dr,ss.obs⟩)
def A1q :List (Int×Int)→List Ob→List Ob
 | [],l=>l|p::r,l=>.le p.1 p.2::A1q r l
def Abw (side:List<|Int×Int)(ss:SS):Option SS:=
 match side with
 | []=>some ss
 |_=>match ss.sk with
  |0=>match ss.sd with
   |n::r=>some ⟨ss.k,ss.br,n,r,ss.ans,ss.dr,A1q side ss.obs⟩| []=>none
  |n+1=>cond (Q3 side) (some ⟨ss.k,ss.br,n,ss.sd,ss.ans,ss.dr,ss.obs⟩) none
abbrev CallS :=FuncId→List AVal→Hz→SS→Option (AVal×Hz×SS)
def Adq :AOp→Bool
 |.bin op _ _ _=>match op with
  |.eql|.neq|.lss|.leq|.gtr|.geq=>true|_=>false
 |.eqs _ _ _ _=>true|_=>false
def A36 (call:CallS)(cmp:Bool)(H:Hz)(ss:SS):Option ARes→Option (AVal×Hz×SS)
 |some (.val v H' side)=>match Abw side ss with
  |some s1=>cond cmp (match v with
   |.bool b=>match decS b s1 with
    |some (c,s2)=>some (.bool c,H',s2)|none=>none
   |_=>none) (some (v,H',s1))
  |none=>none
 |some (.skip H')=>some (.tup [],H',ss)|some (.call f args)=>call f args H ss|none=>none
def Zu (P:Program)(G:List<|Nat×AVal)(call:CallS)(ops:Array Oper)(o:Oper)(s:St)(ss:SS):Option (St×SS):=
 match Cj ops s o.guard with
 |some true=>match Ar P o.op with
  |some op=>match A36 call (Adq op) s.H ss (aop G s op)with
   |some (v,H',s1)=>match s.put o.dst v H' with
    |some t=>some (t,s1)|none=>none
   |none=>none
  |none=>none
 |some false=>match s.put o.dst (.tup []) s.H with
  |some t=>some (t,ss)|none=>none
 |none=>none
def Qy (P:Program)(G:List<|Nat×AVal)(call:CallS)(ops:Array Oper):List Oper→St→SS→Option (St×SS)
 | [],s,ss=>some (s,ss)
 |o::r,s,ss=>match Zu P G call ops o s ss with
  |some (t,s1)=>Qy P G call ops r t s1|none=>none
def A61 (G:List<|Nat×AVal)(call:CallS)(o:AOper)(s:St)(ss:SS):Option (AVal×Hz×SS):=
 match o.guard with
 |none=>A36 call (Adq o.op) s.H ss<|aop G s o.op
 |some (d,want)=>match s.env.get d with
  |some (.bool b)=>cond (cond b want<|not want) (A36 call (Adq o.op) s.H ss<|aop G s o.op) (some (.tup [],s.H,ss))|some (.tup [])=>some (.tup [],s.H,ss)|_=>none
def A8x (G:List<|Nat×AVal)(call:CallS)(p:SP)(n:Nat):List AOper→Nat→Env→Nat→Hz→HMap→SS→Option (List Tr×HMap×Env×SS)
 | [],_,e,_,_,M,ss=>some ([],M,e,ss)
 |o::r,j,e,σ,H,M,ss=>match Eq o.dst n with
  |true=>match A61 G call o ⟨e,H,n⟩ ss with
   |some (v,H',s1)=>match p.eff j with
    |true=>match lkH (SP.nxt σ j) M with
     |none=>match A8x G call p n r (j+1) (G3 o.dst v e) (SP.nxt σ j) H' ((SP.nxt σ j,H')::M) s1 with
      |some (l,rest)=>some (⟨e,v,σ⟩::l,rest)|none=>none
     |some _=>none
    |false=>match A8x G call p n r (j+1) (G3 o.dst v e) σ H M s1 with
     |some (l,rest)=>some (⟨e,v,σ⟩::l,rest)|none=>none
   |none=>none
  |false=>none
def SS.ob (ss:SS)(o:Ob):SS:=⟨ss.k,ss.br,ss.sk,ss.sd,ss.ans,ss.dr,o::ss.obs⟩
def SS.drop (ss:SS):SS:=⟨ss.k,ss.br,ss.sk,ss.sd,ss.ans,ss.dr.tail,ss.obs⟩
def S7 (G:List<|Nat×AVal)(call:CallS)(n:Nat)(o:AOper)(t:Tr)(σ j:Nat)(M:HMap)(ss:SS):Option (HMap×SS):=
 match lkH σ M with
 |some H=>match A61 G call o ⟨t.env,H,n⟩ ss with
  |some (v,H',s1)=>match lkH (SP.nxt σ j) M with
   |some H''=>some (M,(s1.ob<|.hp H' H'').ob<|.veq v t.v)|none=>some ((SP.nxt σ j,H')::M,s1.ob<|.veq v t.v)
  |none=>none
 |none=>none
def L7 (t:Tr)(σ j:Nat)(M:HMap)(ss:SS):Option (HMap×SS):=
 match lkH σ M with
 |some H=>match lkH t.σ M with
  |some Ht=>match lkH (SP.nxt t.σ j) M with
   |some Ht'=>match lkH (SP.nxt σ j) M with
    |some H''=>some (M,(ss.ob<|.hp Ht' H'').ob<|.hp Ht H)|none=>some ((SP.nxt σ j,Ht')::M,ss.ob<|.hp Ht H)
   |none=>none
  |none=>none
 |none=>none
def A1d (G:List<|Nat×AVal)(e:Env)(n:Nat):AOp→Option (Nat×List AVal)
 |.call f az'=>match ev G ⟨e,[],n⟩ f with
  |some (.fn g first cap)=>match evs G ⟨e,[],n⟩ az' with
   |some l=>some (g,first++l++cap)
   |none=>none
  |_=>none
 |_=>none
def Jh (G:List<|Nat×AVal)(n:Nat)(o:AOper)(t:Tr)(σ j:Nat)(M:HMap)(ss:SS):Option (HMap×SS):=
 match lkH σ M with
 |some H=>match lkH t.σ M with
  |some Ht=>match lkH (SP.nxt t.σ j) M with
   |some Ht'=>match o.guard with
    |none=>match A1d G t.env n o.op with
     |some (_,args)=>cond (Nat.beq Ht'.length Ht.length&&(B9 Ht.length Ht&&Ab Ht.length args)) (match lkH (SP.nxt σ j) M with
      |some H''=>some (M,(ss.ob (.hp (Ht'++H.drop Ht.length) H'')).ob (.hp (Ht++H.drop Ht.length) H))|none=>some ((SP.nxt σ j,Ht'++H.drop Ht.length)::M,ss.ob (.hp (Ht++H.drop Ht.length) H))) none
     |none=>none
    |some _=>none
   |none=>none
  |none=>none
 |none=>none
def M6 (G:List<|Nat×AVal)(call:CallS)(n:Nat)(o:AOper)(t:Tr)(σ j:Nat)(M:HMap)(ss:SS):Option (HMap×SS):=
 cond (Nat.beq σ t.σ) (some (M,ss)) (match ss.dr with
  |0::_=>S7 G call n o t σ j M ss.drop|1::_=>L7 t σ j M ss.drop|_::_=>Jh G n o t σ j M ss.drop| []=>none)
def Jl (G:List<|Nat×AVal)(call:CallS)(n:Nat)(ops':List AOper)(l:List Tr)(σ:Nat):List Nat→HMap→SS→Option (HMap×SS)
 | [],M,ss=>some (M,ss)
 |j::r,M,ss=>match ops'[j]? with
  |some o=>match l[j]? with
   |some t=>match M6 G call n o t σ j M ss with
    |some (M',s1)=>Jl G call n ops' l σ r M' s1|none=>none
   |none=>none
  |none=>none
def Iq (G:List<|Nat×AVal)(call:CallS)(p:SP)(n:Nat)(ops':List AOper)(l:List Tr):List Nat→HMap→SS→Option (HMap×SS)
 | [],M,ss=>some (M,ss)
 |σ::r,M,ss=>match Jl G call n ops' l σ (p.steps σ) M ss with
  |some (M',s1)=>Iq G call p n ops' l r M' s1|none=>none
def exB (p:SP)(M:HMap):Bool:=p.states.all λσ=>(lkH σ M).isSome
def rdV :Option ARes→Option (AVal×List (Int×Int))
 |some (.val v _ side)=>some (v,side)|_=>none
def rdS (G:List<|Nat×AVal)(o:AOper)(s:St):Option (AVal×List (Int×Int)):=
 match o.guard with
 |none=>rdV<|aop G s o.op
 |some (d,want)=>match s.env.get d with
  |some (.bool b)=>cond (cond b want<|not want) (rdV<|aop G s o.op) (some (.tup [],[]))|some (.tup [])=>some (.tup [],[])|_=>none
def Ly (G:List<|Nat×AVal)(p:SP)(n:Nat)(M:HMap)(o:AOper)(t:Tr)(j:Nat):List Nat→List Ob→Option (List Ob)
 | [],acc=>some acc
 |σ::r,acc=>cond (Nat.beq σ t.σ) (Ly G p n M o t j r acc) (cond (p.mayB σ j) (match lkH σ M with
  |some H=>match rdS G o ⟨t.env,H,n⟩with
   |some (v,side)=>Ly G p n M o t j r (.veq v t.v::A1q side acc)|none=>none
  |none=>none) (Ly G p n M o t j r acc))
def T0 (G:List<|Nat×AVal)(p:SP)(n:Nat)(M:HMap):List AOper→List Tr→Nat→List Ob→Option (List Ob)
 |o::r,t::l,j,acc=>match cond (Nat.beq (p.kind.getD j 0) 1) (Ly G p n M o t j p.states acc) (some acc)with
  |some acc'=>T0 G p n M r l (j+1) acc'|none=>none
 |_,_,_,acc=>some acc
def A4t (G:List<|Nat×AVal)(call:CallS)(p:SP)(l:List AOper)(s:St)(ss:SS):Option (St×SS):=
 match A8x G call p s.n l 0 s.env 0 s.H [(0,s.H)] ss with
 |some (trs,M,e,s1)=>match Iq G call p s.n l trs p.states M s1 with
  |some (M',s2)=>cond (exB p M') (match T0 G p s.n M' l trs 0 s2.obs with
   |some obs=>match lkH p.fin M' with
    |some H=>some (⟨e,H,s.n⟩,⟨s2.k,s2.br,s2.sk,s2.sd,s2.ans,s2.dr,obs⟩)|none=>none
   |none=>none) none
  |none=>none
 |none=>none
def Aav (P:Program)(G:List<|Nat×AVal)(call:CallS)(ops:Array Oper)(s:St)(ss:SS):Option (St×SS):=match Bc P ops ops.toList with|some l=>cond (J1 P ops<|Ep P ops.toList) (A4t G call (Ep P ops.toList) l s ss) none|none=>none
def loopS (body:St→SS→Option (Ai×St×SS)):Nat→St→SS→Option (Ai×St×SS)
 |0,_,_=>none
 |n+1,s,ss=>match body s ss with
  |some (.normal,s',s1)=>loopS body n s' s1|r=>r
def Yx (P:Program)(G:List<|Nat×AVal)(call:CallS)(ih:Code→St→SS→Option (Ai×St×SS)):Code→St→SS→Option (Ai×St×SS)
 |.skip,s,ss=>some (.normal,s,ss)
 |.region _ ops d,s,ss=>match cond d (Aav P G call ops s ss) (Qy P G call ops ops.toList s ss)with
  |some (s',s1)=>some (.normal,s',s1)|none=>none
 |.seq x y,s,ss=>match ih x s ss with
  |some (.normal,s',s1)=>ih y s' s1|r=>r
 |.cond c x y,s,ss=>match Aj c with
  |some c'=>match ev G s c' with
   |some (.bool b)=>cond b (ih x s ss) (ih y s ss)|_=>none
  |none=>none
 |.block id c,s,ss=>match ih c s ss with
  |some (.exit j,s',s1)=>cond (Nat.beq j id) (some (.normal,s',s1)) (some (.exit j,s',s1))|r=>r
 |.loop c,s,ss=>loopS (ih c) 1000000 s ss|.exit id,s,ss=>some (.exit id,s,ss)|.ret,s,ss=>some (.ret,s,ss)|_,_,_=>none
def X9 (P:Program)(G:List<|Nat×AVal)(call:CallS):Nat→Code→St→SS→Option (Ai×St×SS)
 |0,_,_,_=>none|n+1,c,s,ss=>Yx P G call (X9 P G call n) c s ss
def finS (P:Program)(fn:Func)(kp:Bool)(H:Hz):Option (Ai×St×SS)→Option (AVal×Hz×SS)
 |some (e,s,ss)=>match Ads P fn kp H (some (e,s))with
  |some (v,H')=>some (v,H',ss)|none=>none
 |none=>none
def Abk (P:Program)(G:List<|Nat×AVal)(call:CallS)(fuel:Nat)(b:DB)(s:St)(ss:SS):Option (Ai×St×SS):=
 match X9 P G call fuel b.r0 s ss with
 |some (.normal,s0,t0)=>match X9 P G call fuel b.r1 s0 t0 with
  |some (.normal,s1,t1)=>match Zu P G call #[b.o0,b.o1] b.o0 s1 t1 with
   |some (s2,t2)=>cond (A7z s2.env b.t b.g b.m) (X9 P G call fuel b.rest s2 t2) none|none=>none
  |_=>none
 |_=>none
def ansS (f:Nat)(args:List AVal)(H:Hz)(ss:SS):Option (AVal×Hz×SS):=match ss.ans with|(v,none)::r=>cond (cond (Ab 0 args) (blw 0 v) false) (some (v,H,⟨ss.k,ss.br,ss.sk,ss.sd,r,ss.dr,.call f args v::ss.obs⟩)) none|(v,some H')::r=>some (v,H',⟨ss.k,ss.br,ss.sk,ss.sd,r,ss.dr,.callH f args H v H'::ss.obs⟩)| []=>none
def G6 (P:Program)(G:List<|Nat×AVal)(keep opq:Nat→Bool)(idle:Nat→Option Nat)(tab:CallF)(fuel:Nat):Nat→CallS
 |0,_,_,_,_=>none
 |d+1,f,args,H,ss=>cond (opq f) (ansS f args H ss) (match tab f args H with
  |some r=>some (r.1,r.2,ss)
  |none=>match P.funcs[f]? with
   |some fn=>match fn.body with
    |some c=>cond (Nat.ble args.length 4094&& !(fn.name== "runtime.NumGoroutine")) (finS P fn (keep f) H (match Oz idle c with
     |some b=>Abk P G (G6 P G keep opq idle tab fuel d) fuel b ⟨Fv 0 args .leaf,H,args.length+(fn.ntmps-args.length)⟩ ss|none=>X9 P G (G6 P G keep opq idle tab fuel d) fuel c ⟨Fv 0 args .leaf,H,args.length+(fn.ntmps-args.length)⟩ ss)) none
    |none=>none
   |none=>none)
def Gd (P:Program)(W0:World)(ss:SS):Prop:=∀o∈ss.obs,o.ok P W0
def Dp (P:Program)(W0:World)(call:CallS):Prop:=∀f args H ss v H' s1,call f args H ss=some (v,H',s1)→Gd P W0 s1→Gd P W0 ss∧A5 P W0 f args H v H'
section
variable {P : Program} {W0 : World} {G : List (Nat × AVal)}
theorem decS_ok {b c:Bool}{ss s1:SS}(h:decS b ss=some (c,s1))(hg:Gd P W0 s1):Gd P W0 ss∧b=c:=by
 unfold decS at h;split at h
 ·split at h;·injection h with h;injection h with h1 h2;subst h1;subst h2;exact⟨λo ho=>hg o (by simp[ho]),hg (.eq b _) Ax⟩
  ·cases h
 ·injection h with h;injection h with h1 h2;subst h1;subst h2;exact⟨hg,Z⟩
theorem X4 :∀{l:List (Int×Int)}{obs:List Ob},(∀o∈A1q l obs,o.ok P W0)→(∀o∈obs,o.ok P W0)∧Ag l
 | [],_,h=>⟨h,trivial⟩|p::r,obs,h=>by simp only[A1q,List.mem_cons]at h;obtain⟨h1,h2⟩:=X4 (l:=r) λo ho=>h o<|.inr ho;exact⟨h1,h (.le p.1 p.2)<|.inl Z,h2⟩
theorem A31 {side:List (Int×Int)}{ss s1:SS}(h:Abw side ss=some s1)(hg:Gd P W0 s1):Gd P W0 ss∧Ag side:=by
 unfold Abw at h;split at h;·injection h with h;subst h;exact⟨hg,trivial⟩
 ·split at h
  ·split at h;·injection h with h;subst h;exact X4 hg
   ·cases h
  ·cases hs:Q3 side with
   |false=>rw[hs]at h;cases h
   |true=>rw[hs,cond_true]at h;injection h with h;subst h;exact⟨hg,R7 hs⟩
theorem Vu {call:CallS}(hc:Dp P W0 call){cmp:Bool}{H H':Hz}{ss s1:SS}{r:Option ARes}{v:AVal}(h:A36 call cmp H ss r=some (v,H',s1))(hg:Gd P W0 s1):Gd P W0 ss∧Ia P W0 H r λv' H''=>v'=v∧H''=H':=by
 unfold A36 at h;split at h
 ·split at h
  ·rename_i t ht;cases cmp with
   |false=>simp only[cond_false,iS,iP]at h;obtain⟨rfl,rfl,rfl⟩:=h;obtain⟨h1,h2⟩:=A31 ht hg;exact⟨h1,h2,Z,Z⟩
   |true=>
    simp only[cond_true]at h;split at h
    ·split at h;·rename_i c t2 hd;simp only[iS,iP]at h;obtain⟨rfl,rfl,rfl⟩:=h;obtain⟨k1,k2⟩:=decS_ok hd hg;obtain⟨h1,h2⟩:=A31 ht k1;subst k2;exact⟨h1,h2,Z,Z⟩
     ·cases h
    ·cases h
  ·cases h
 ·simp only[iS,iP]at h;obtain⟨rfl,rfl,rfl⟩:=h;exact⟨hg,Z,Z⟩
 ·obtain⟨h1,h2⟩:=hc _ _ _ _ _ _ _ h hg;exact⟨h1,_,_,h2,Z,Z⟩
 ·cases h
theorem A9y {H:Hz}{r:Option ARes}{v:AVal}{H':Hz}(h:Ia P W0 H r λv' H''=>v'=v∧H''=H'){K:AVal→Hz→Prop}(hk:K v H'):Ia P W0 H r K:=Z7 (λv' H'' ⟨e1,e2⟩=>by grind) h
theorem Yh {call:CallS}(hc:Dp P W0 call){ops:Array Oper}{o:Oper}{s t:St}{ss s1:SS}(h:Zu P G call ops o s ss=some (t,s1))(hg:Gd P W0 s1):Gd P W0 ss∧∀{K:St→Prop},K t→Iu P W0 G ops o s K:=by
 unfold Zu at h;unfold Iu;cases hgd:Cj ops s o.guard with
 |none=>rw[hgd]at h;cases h
 |some b=>
  rw[hgd]at h;cases b with
  |false=>
   simp only at h⊢;split at h;·grind[St.put_putP]
   ·cases h
  |true=>
   simp only at h⊢;cases hop:Ar P o.op with
   |none=>rw[hop]at h;cases h
   |some op=>
    rw[hop]at h;simp only at h⊢;split at h
    ·rename_i v H' t1 hr;split at h;·rename_i t' ht;simp only[iS,iP]at h;obtain⟨rfl,rfl⟩:=h;obtain⟨h1,h2⟩:=Vu hc hr hg;exact⟨h1,λhk=>A9y h2<|St.put_putP ht hk⟩
     ·cases h
    ·cases h
theorem Xn {call:CallS}(hc:Dp P W0 call){ops:Array Oper}:∀{l:List Oper}{s t:St}{ss s1:SS},Qy P G call ops l s ss=some (t,s1)→Gd P W0 s1→Gd P W0 ss∧∀{K:St→Prop},K t→O5 P W0 G ops l s K
 | [],s,t,ss,s1,h,hg=>by simp only[Qy,iS,iP]at h;obtain⟨rfl,rfl⟩:=h;exact⟨hg,λhk=>hk⟩
 |o::r,s,t,ss,s1,h,hg=>by
  simp only[Qy]at h;split at h;·rename_i t' s2 h1;obtain⟨k1,k2⟩:=Xn hc h hg;obtain⟨k3,k4⟩:=Yh hc h1 k1;exact⟨k3,λhk=>k4<|k2 hk⟩
  ·cases h
theorem R9 {call:CallS}(hc:Dp P W0 call){o:AOper}{s:St}{ss s1:SS}{v:AVal}{H':Hz}(h:A61 G call o s ss=some (v,H',s1))(hg:Gd P W0 s1):Gd P W0 ss∧Bl P W0 G o s λv' H''=>v'=v∧H''=H':=by
 unfold A61 at h;unfold Bl;split at h;·grind[Vu]
 ·rename_i d want hgd;rw[hgd];simp only;split at h;·rename_i b hb;rw[hb];simp only;cases hw:cond b want (not want)with|true=>rw[hw]at h;exact Vu hc h hg|false=>rw[hw,cond_false]at h;simp only[iS,iP]at h;obtain⟨rfl,rfl,rfl⟩:=h;exact⟨hg,Z,Z⟩
  all_goals grind
theorem rdS_ok {o:AOper}(hk:o.op.kind≤1){s:St}{v:AVal}{side:List (Int×Int)}(h:rdS G o s=some (v,side))(hs:Ag side):Bl P W0 G o s λv' H'=>v'=v∧H'=s.H:=by
 have main:rdV (aop G s o.op)=some (v,side)→Ia P W0 s.H (aop G s o.op) (λv' H''=>v'=v∧H''=s.H):=by
  intro h;cases hr:aop G s o.op with
  |none=>rw[hr]at h;cases h
  |some r=>obtain⟨v1,side1,rfl⟩:=Jj Y hr;rw[hr]at h;simp only[rdV,iS,iP]at h;obtain⟨rfl,rfl⟩:=h;exact⟨hs,Z,Z⟩
 unfold rdS at h;unfold Bl;grind
theorem M5 {p:SP}{n:Nat}{M:HMap}{o:AOper}{t:Tr}{j:Nat}(hop:o.op.kind≤1):∀{sts:List Nat}{acc obs:List Ob},Ly G p n M o t j sts acc=some obs→(∀o∈obs,o.ok P W0)→
 (∀o∈acc,o.ok P W0)∧∀σ∈sts,p.mayB σ j=true→σ=t.σ∨∃H,lkH σ M=some H∧Bl P W0 G o ⟨t.env,H,n⟩ λv' H'=>v'=t.v∧H'=H
 | [],acc,obs,h,hg=>by grind[Ly]
 |τ::r,acc,obs,h,hg=>by
  simp only[Ly]at h;cases hb:Nat.beq τ t.σ with
  |true=>
   rw[hb,cond_true]at h;obtain⟨k1,k2⟩:=M5 hop h hg;refine⟨k1,λσ hσ hm=>?_⟩;rcases List.mem_cons.1 hσ with rfl|hσ;·simp_all
   ·grind
  |false=>
   rw[hb,cond_false]at h;cases hm:p.mayB τ j with
   |false=>
    rw[hm,cond_false]at h;obtain⟨k1,k2⟩:=M5 hop h hg;refine⟨k1,λσ hσ hm'=>?_⟩;rcases List.mem_cons.1 hσ with rfl|hσ;·grind
    ·grind
   |true=>
    rw[hm,cond_true]at h;split at h
    ·rename_i H hH;split at h;·rename_i v side hv;obtain⟨k1,k2⟩:=M5 hop h hg;have hv':v=t.v:=k1 (.veq v t.v) Ax;obtain⟨k3,k4⟩:=X4 (P:=P) (W0:=W0) (l:=side) (obs:=acc) λo ho=>k1 o (by simp[ho]);grind[rdS_ok]
     ·cases h
    ·cases h
theorem Za {p:SP}{n:Nat}{M:HMap}:∀{l:List AOper}{trs:List Tr}{j:Nat}{acc obs:List Ob},T0 G p n M l trs j acc=some obs→(∀o∈obs,o.ok P W0)→(∀k o,l[k]?=some o→p.kind.getD (j+k) 0=1→o.op.kind≤1)→
 (∀o∈acc,o.ok P W0)∧∀k o t,l[k]?=some o→trs[k]?=some t→p.kind.getD (j+k) 0=1→∀σ∈p.states,p.mayB σ (j+k)=true→σ=t.σ∨∃H,lkH σ M=some H∧Bl P W0 G o ⟨t.env,H,n⟩ λv' H'=>v'=t.v∧H'=H
 | [],trs,j,acc,obs,h,hg,_=>by grind[T0]|_::_,[],j,acc,obs,h,hg,_=>by grind[T0]
 |o::r,t::trs,j,acc,obs,h,hg,hkd=>by
  simp only[T0]at h;split at h
  ·rename_i acc' ha;obtain⟨k1,k2⟩:=Za h hg λk o ho h1=>hkd (k+1) o (by grind) (by grind);have hacc:(∀o∈acc,o.ok P W0)∧(p.kind.getD j 0=1→∀σ∈p.states,p.mayB σ j=true→σ=t.σ∨∃H,lkH σ M=some H∧Bl P W0 G o ⟨t.env,H,n⟩ λv' H'=>v'=t.v∧H'=H):=by
    cases hb:Nat.beq (p.kind.getD j 0) 1 with
    |false=>rw[hb,cond_false]at ha;injection ha with ha;subst ha;exact⟨k1,λh1=>by simp_all⟩
    |true=>rw[hb,cond_true]at ha;obtain⟨c1,c2⟩:=M5 (hkd 0 o rfl (by simp_all)) ha k1;exact⟨c1,λ_=>c2⟩
   grind
  ·cases h
theorem A11 {call:CallS}(hc:Dp P W0 call){p:SP}{n:Nat}:∀(l:List AOper) (j:Nat) (e:Env) (σ:Nat) (H:Hz) (M:HMap) {ss s1:SS}{tr:List Tr}{Mf:HMap}{ef:Env},A8x G call p n l j e σ H M ss=some (tr,Mf,ef,s1)→lkH σ M=some H→Gd P W0 s1→
 Gd P W0 ss∧Ff M Mf∧tr.length=l.length∧envOf tr ef 0=e∧
 ∀k o,l[k]?=some o→∃t Hk H',tr[k]?=some t∧Eq o.dst n=true∧lkH t.σ Mf=some Hk∧(Bl P W0 G o ⟨t.env,Hk,n⟩ λv' H''=>v'=t.v∧H''=H')∧
  (p.eff (j+k)=true→lkH (SP.nxt t.σ<|j+k) Mf=some H')∧envOf tr ef (k+1)=G3 o.dst t.v t.env
 | [],j,e,σ,H,M,ss,s1,tr,Mf,ef,h,hl,hg=>by grind[A8x,Ff,envOf]
 |o::r,j,e,σ,H,M,ss,s1,tr,Mf,ef,h,hl,hg=>by
  simp only[A8x]at h;split at h
  ·rename_i hd;split at h
   ·rename_i v H' s2 hv;split at h
    ·rename_i heff;split at h
     ·rename_i hnone;split at h;·rename_i l' rest hrest;simp only[iS,iP]at h;obtain⟨rfl,h⟩:=h;subst h;obtain⟨g1,h1,h2,h3,h4⟩:=A11 hc r (j+1) _ _ H' _ hrest (Db _ _ _) hg;obtain⟨g2,e2⟩:=R9 hc hv g1;have hext:Ff M Mf:=λσ' H'' h'=>h1 _ _<|Ff.cons hnone _ _ h';refine⟨g2,hext,by simp[h2],rfl,λk o' hk=>?_⟩;cases k with|zero=>simp at hk;subst hk;exact⟨_,H,H',Z,hd,hext _ _ hl,e2,λ_=>h1 _ _<|Db _ _ _,by grind[envOf]⟩|succ k=>obtain⟨t,Hk,Hk',a1,a2,a3,a4,a5,a6⟩:=h4 k o' (by grind);exact⟨t,Hk,Hk',by grind,a2,a3,a4,by grind,by grind[envOf]⟩
      ·cases h
     ·cases h
    ·rename_i heff;split at h;·rename_i l' rest hrest;simp only[iS,iP]at h;obtain⟨rfl,h⟩:=h;subst h;obtain⟨g1,h1,h2,h3,h4⟩:=A11 hc r (j+1) _ _ H _ hrest hl hg;obtain⟨g2,e2⟩:=R9 hc hv g1;refine⟨g2,h1,by simp[h2],rfl,λk o' hk=>?_⟩;cases k with|zero=>simp at hk;subst hk;exact⟨_,H,H',Z,hd,h1 _ _ hl,e2,λhe=>absurd he (by grind),by grind[envOf]⟩|succ k=>obtain⟨t,Hk,Hk',a1,a2,a3,a4,a5,a6⟩:=h4 k o' (by grind);exact⟨t,Hk,Hk',by grind,a2,a3,a4,by grind,by grind[envOf]⟩
     ·cases h
   ·cases h
  ·cases h
theorem A2e {o:AOper}{s:St}{v:AVal}{H':Hz}(hk:o.op.kind≤1)(h:Bl P W0 G o s λv' H''=>v'=v∧H''=H'):H'=s.H:=by
 have main:Ia P W0 s.H (aop G s o.op) (λv' H''=>v'=v∧H''=H')→H'=s.H:=by intro h;cases hr:aop G s o.op with|none=>rw[hr]at h;exact h.elim|some r=>obtain⟨v1,side,rfl⟩:=Jj Y hr;rw[hr]at h;exact h.2.2.symm
 unfold Bl at h;grind
theorem Gd.ob {ss:SS}{o:Ob}(h:Gd P W0<|ss.ob o):Gd P W0 ss∧o.ok P W0:=⟨λo' ho=>h o' (by simp[SS.ob,ho]),h o (by simp[SS.ob])⟩
def Uh (P:Program)(W0:World)(G:List<|Nat×AVal)(n:Nat)(o:AOper)(t:Tr)(j:Nat)(M:HMap):Prop:=∃Hk H',lkH t.σ M=some Hk∧(Bl P W0 G o ⟨t.env,Hk,n⟩ λv' H''=>v'=t.v∧H''=H')∧lkH (SP.nxt t.σ j) M=some H'
theorem Uh.ext {n:Nat}{o:AOper}{t:Tr}{j:Nat}{M M':HMap}(h:Uh P W0 G n o t j M)(he:Ff M M'):Uh P W0 G n o t j M':=by obtain⟨Hk,H',h1,h2,h3⟩:=h;exact⟨Hk,H',he _ _ h1,h2,he _ _ h3⟩
theorem W4 {call:CallS}(hc:Dp P W0 call){n:Nat}{o:AOper}{t:Tr}{σ j:Nat}{M M':HMap}{ss s1:SS}(h:S7 G call n o t σ j M ss=some (M',s1))(hg:Gd P W0 s1):
 Gd P W0 ss∧Ff M M'∧∃H H',lkH σ M'=some H∧(Bl P W0 G o ⟨t.env,H,n⟩ λv' H''=>v'=t.v∧H''=H')∧lkH (SP.nxt σ j) M'=some H':=by
 unfold S7 at h;split at h
 ·rename_i H hH;split at h
  ·rename_i v H' s2 hv;split at h;·rename_i H'' hH'';simp only[iS,iP]at h;obtain⟨rfl,rfl⟩:=h;obtain⟨g1,o1⟩:=hg.ob;obtain⟨g2,o2⟩:=g1.ob;obtain⟨g3,e3⟩:=R9 hc hv g2;have o1:v=t.v:=o1;have o2:H'=H'':=o2;subst o1;subst o2;exact⟨g3,λ_ _ h=>h,H,H',hH,e3,hH''⟩
   ·rename_i hnone;simp only[iS,iP]at h;obtain⟨rfl,rfl⟩:=h;obtain⟨g1,o1⟩:=hg.ob;obtain⟨g3,e3⟩:=R9 hc hv g1;have o1:v=t.v:=o1;subst o1;exact⟨g3,Ff.cons hnone,H,H',Ff.cons hnone _ _ hH,e3,Db _ _ _⟩
  ·cases h
 ·cases h
theorem A28 {n:Nat}{o:AOper}{t:Tr}{σ j:Nat}{M M':HMap}{ss s1:SS}(hb:Uh P W0 G n o t j M)(h:L7 t σ j M ss=some (M',s1))(hg:Gd P W0 s1):
 Gd P W0 ss∧Ff M M'∧∃H H',lkH σ M'=some H∧(Bl P W0 G o ⟨t.env,H,n⟩ λv' H''=>v'=t.v∧H''=H')∧lkH (SP.nxt σ j) M'=some H':=by
 obtain⟨Hk,Hk',b1,b2,b3⟩:=hb;unfold L7 at h;split at h
 ·rename_i H hH;split at h
  ·rename_i Ht hHt;rw[b1]at hHt;injection hHt with hHt;subst hHt;split at h
   ·rename_i Ht' hHt';rw[b3]at hHt';injection hHt' with hHt';subst hHt';split at h;·rename_i H'' hH'';simp only[iS,iP]at h;obtain⟨rfl,rfl⟩:=h;obtain⟨g1,o1⟩:=hg.ob;obtain⟨g2,o2⟩:=g1.ob;have o1:Hk=H:=o1;have o2:Hk'=H'':=o2;subst o1;subst o2;exact⟨g2,λ_ _ h=>h,Hk,Hk',hH,b2,hH''⟩
    ·rename_i hnone;simp only[iS,iP]at h;obtain⟨rfl,rfl⟩:=h;obtain⟨g1,o1⟩:=hg.ob;have o1:Hk=H:=o1;subst o1;exact⟨g1,Ff.cons hnone,Hk,Hk',Ff.cons hnone _ _ hH,b2,Db _ _ _⟩
   ·cases h
  ·cases h
 ·cases h
theorem Wt {e:Env}{n:Nat}{op:AOp}{f:Nat}{args:List AVal}(h:A1d G e n op=some (f,args))(H:Hz):aop G ⟨e,H,n⟩ op=some (.call f args):=by cases op<;>simp only[A1d,reduceCtorEq]at h;grind[aop,K4,A68]
theorem Zy {n:Nat}{o:AOper}{t:Tr}{σ j:Nat}{M M':HMap}{ss s1:SS}(hb:Uh P W0 G n o t j M)(h:Jh G n o t σ j M ss=some (M',s1))(hg:Gd P W0 s1):
 Gd P W0 ss∧Ff M M'∧∃H H',lkH σ M'=some H∧(Bl P W0 G o ⟨t.env,H,n⟩ λv' H''=>v'=t.v∧H''=H')∧lkH (SP.nxt σ j) M'=some H':=by
 obtain⟨Hk,Hk',b1,b2,b3⟩:=hb;unfold Jh at h;split at h
 ·rename_i H hH;split at h
  ·rename_i Ht hHt;rw[b1]at hHt;injection hHt with hHt;subst hHt;split at h
   ·rename_i Ht' hHt';rw[b3]at hHt';injection hHt' with hHt';subst hHt';split at h
    ·rename_i hgd;split at h
     ·rename_i f args hct;cases hcd:(Nat.beq Hk'.length Hk.length&&(B9 Hk.length Hk&&Ab Hk.length args))with
      |false=>rw[hcd]at h;cases h
      |true=>
       rw[hcd,cond_true]at h;simp only[bAt]at hcd;obtain⟨c1,c2,c3⟩:=hcd;have c1:=nBq c1;have hcall:A5 P W0 f args Hk t.v Hk':=by unfold Bl at b2;rw[hgd]at b2;simp only[Wt hct Hk]at b2;obtain⟨v',H'',k1,k2,k3⟩:=b2;subst k2;subst k3;exact k1
       have hfr:=hcall.frame c2 c3 c1<|H.drop Hk.length;have hev:∀{H2:Hz},Hk++H.drop Hk.length=H2→Bl P W0 G o ⟨t.env,H2,n⟩ λv' H''=>v'=t.v∧H''=Hk'++H.drop Hk.length:=by intro H2 he;subst he;unfold Bl;rw[hgd];simp only[Wt hct];exact⟨_,_,hfr,Z,Z⟩
       split at h;·rename_i H'' hH'';simp only[iS,iP]at h;obtain⟨rfl,rfl⟩:=h;obtain⟨g1,o1⟩:=hg.ob;obtain⟨g2,o2⟩:=g1.ob;have o1:Hk++H.drop Hk.length=H:=o1;have o2:Hk'++H.drop Hk.length=H'':=o2;exact⟨g2,λ_ _ h=>h,H,H'',hH,o2▸hev o1,hH''⟩
       ·rename_i hnone;simp only[iS,iP]at h;obtain⟨rfl,rfl⟩:=h;obtain⟨g1,o1⟩:=hg.ob;have o1:Hk++H.drop Hk.length=H:=o1;exact⟨g1,Ff.cons hnone,H,_,Ff.cons hnone _ _ hH,hev o1,Db _ _ _⟩
     ·cases h
    ·cases h
   ·cases h
  ·cases h
 ·cases h
theorem A4w {call:CallS}(hc:Dp P W0 call){n:Nat}{o:AOper}{t:Tr}{σ j:Nat}{M M':HMap}{ss s1:SS}(hb:Uh P W0 G n o t j M)(h:M6 G call n o t σ j M ss=some (M',s1))(hg:Gd P W0 s1):
 Gd P W0 ss∧Ff M M'∧(σ=t.σ∨∃H H',lkH σ M'=some H∧(Bl P W0 G o ⟨t.env,H,n⟩ λv' H''=>v'=t.v∧H''=H')∧lkH (SP.nxt σ j) M'=some H'):=by
 unfold M6 at h;cases hbq:Nat.beq σ t.σ with
 |true=>rw[hbq,cond_true]at h;simp only[iS,iP]at h;obtain⟨rfl,rfl⟩:=h;exact⟨hg,λ_ _ h=>h,.inl<|nBq hbq⟩
 |false=>
  rw[hbq,cond_false]at h;split at h;·obtain⟨k1,k2,k3⟩:=W4 hc h hg;exact⟨k1,k2,.inr k3⟩
  ·obtain⟨k1,k2,k3⟩:=A28 hb h hg;exact⟨k1,k2,.inr k3⟩
  ·obtain⟨k1,k2,k3⟩:=Zy hb h hg;exact⟨k1,k2,.inr k3⟩
  ·cases h
theorem Zf {call:CallS}(hc:Dp P W0 call){n:Nat}{ops':List AOper}{l:List Tr}{σ:Nat}:∀{js:List Nat}{M M':HMap}{ss s1:SS},(∀j∈js,∀o t,ops'[j]?=some o→l[j]?=some t→Uh P W0 G n o t j M)→Jl G call n ops' l σ js M ss=some (M',s1)→Gd P W0 s1→
 Gd P W0 ss∧Ff M M'∧∀j∈js,∃o t,ops'[j]?=some o∧l[j]?=some t∧(σ=t.σ∨∃H H',lkH σ M'=some H∧(Bl P W0 G o ⟨t.env,H,n⟩ λv' H''=>v'=t.v∧H''=H')∧lkH (SP.nxt σ j) M'=some H')
 | [],M,M',ss,s1,_,h,hg=>by simp only[Jl,iS,iP]at h;obtain⟨rfl,rfl⟩:=h;exact⟨hg,λ_ _ h=>h,λj hj=>by cases hj⟩
 |j::r,M,M',ss,s1,hb,h,hg=>by
  simp only[Jl]at h;split at h
  ·rename_i o ho;split at h
   ·rename_i t ht;split at h
    ·rename_i M1 s2 h1;have hext:Ff M M1:=by
      unfold M6 at h1;cases hbq:Nat.beq σ t.σ with
      |true=>rw[hbq,cond_true]at h1;simp only[iS,iP]at h1;obtain⟨rfl,_⟩:=h1;exact λ_ _ h=>h
      |false=>
       rw[hbq,cond_false]at h1;split at h1
       ·unfold S7 at h1;repeat' (split at h1)
        all_goals first
         |(cases h1;done)
         |(simp only[iS,iP]at h1;obtain⟨rfl,_⟩:=h1;exact λ_ _ h=>h)
         |(rename_i hn;simp only[iS,iP]at h1;obtain⟨rfl,_⟩:=h1;exact Ff.cons hn)
       ·unfold L7 at h1;repeat' (split at h1)
        all_goals first
         |(cases h1;done)
         |(simp only[iS,iP]at h1;obtain⟨rfl,_⟩:=h1;exact λ_ _ h=>h)
         |(rename_i hn;simp only[iS,iP]at h1;obtain⟨rfl,_⟩:=h1;exact Ff.cons hn)
       ·unfold Jh at h1;repeat' (split at h1)
        all_goals first
         |(cases h1;done)
         |(
          revert h1;cases(Nat.beq _ _&&(B9 _ _&&Ab _ _))with
          |false=>intro h1;cases h1
          |true=>
           intro h1;rw[cond_true]at h1;simp only[iS,iP]at h1;obtain⟨rfl,_⟩:=h1;first
            |exact λ_ _ h=>h|exact Ff.cons (by assumption))
       ·cases h1
     obtain⟨g2,b1,b2⟩:=Zf hc (λk hk o t h1 h2=>(hb k (by simp[hk]) o t h1 h2).ext hext) h hg;obtain⟨g1,a1,a2⟩:=A4w hc (hb j Ax o t ho ht) h1 g2;refine⟨g1,λσ H hh=>b1 _ _<|a1 _ _ hh,λk hk=>?_⟩;rcases List.mem_cons.1 hk with rfl|hk;·refine⟨o,t,ho,ht,a2.imp id ?_⟩;rintro⟨H,H',c1,c2,c3⟩;exact⟨H,H',b1 _ _ c1,c2,b1 _ _ c3⟩
     grind
    ·cases h
   ·cases h
  ·cases h
theorem Vw {call:CallS}{n:Nat}{ops':List AOper}{l:List Tr}{σ:Nat}:∀{js:List Nat}{M M':HMap}{ss s1:SS},Jl G call n ops' l σ js M ss=some (M',s1)→Ff M M'
 | [],M,M',ss,s1,h=>by simp only[Jl,iS,iP]at h;obtain⟨rfl,rfl⟩:=h;exact λ_ _ h=>h
 |j::r,M,M',ss,s1,h=>by
  simp only[Jl]at h;split at h
  ·rename_i o ho;split at h
   ·rename_i t ht;split at h
    ·rename_i M1 s2 h1;have hext:Ff M M1:=by
      unfold M6 at h1;cases hbq:Nat.beq σ t.σ with
      |true=>rw[hbq,cond_true]at h1;simp only[iS,iP]at h1;obtain⟨rfl,_⟩:=h1;exact λ_ _ h=>h
      |false=>
       rw[hbq,cond_false]at h1;split at h1
       ·unfold S7 at h1;repeat' (split at h1)
        all_goals first
         |(cases h1;done)
         |(simp only[iS,iP]at h1;obtain⟨rfl,_⟩:=h1;exact λ_ _ h=>h)
         |(rename_i hn;simp only[iS,iP]at h1;obtain⟨rfl,_⟩:=h1;exact Ff.cons hn)
       ·unfold L7 at h1;repeat' (split at h1)
        all_goals first
         |(cases h1;done)
         |(simp only[iS,iP]at h1;obtain⟨rfl,_⟩:=h1;exact λ_ _ h=>h)
         |(rename_i hn;simp only[iS,iP]at h1;obtain⟨rfl,_⟩:=h1;exact Ff.cons hn)
       ·unfold Jh at h1;repeat' (split at h1)
        all_goals first
         |(cases h1;done)
         |(
          revert h1;cases(Nat.beq _ _&&(B9 _ _&&Ab _ _))with
          |false=>intro h1;cases h1
          |true=>
           intro h1;rw[cond_true]at h1;simp only[iS,iP]at h1;obtain⟨rfl,_⟩:=h1;first
            |exact λ_ _ h=>h|exact Ff.cons (by assumption))
       ·cases h1
     exact λσ H hh=>Vw h _ _<|hext _ _ hh
    ·cases h
   ·cases h
  ·cases h
theorem U0 {call:CallS}(hc:Dp P W0 call){p:SP}{n:Nat}{ops':List AOper}{l:List Tr}:∀{sts:List Nat}{M M':HMap}{ss s1:SS},(∀j o t,p.eff j=true→ops'[j]?=some o→l[j]?=some t→Uh P W0 G n o t j M)→Iq G call p n ops' l sts M ss=some (M',s1)→Gd P W0 s1→
 Gd P W0 ss∧Ff M M'∧∀σ∈sts,∀j∈p.steps σ,∃o t,ops'[j]?=some o∧l[j]?=some t∧(σ=t.σ∨∃H H',lkH σ M'=some H∧(Bl P W0 G o ⟨t.env,H,n⟩ λv' H''=>v'=t.v∧H''=H')∧lkH (SP.nxt σ j) M'=some H')
 | [],M,M',ss,s1,_,h,hg=>by simp only[Iq,iS,iP]at h;obtain⟨rfl,rfl⟩:=h;exact⟨hg,λ_ _ h=>h,λj hj=>by cases hj⟩
 |σ::r,M,M',ss,s1,hb,h,hg=>by
  simp only[Iq]at h;split at h
  ·rename_i M1 s2 h1;have hext:=Vw h1;obtain⟨g2,b1,b2⟩:=U0 hc (λj o t h1 h2 h3=>(hb j o t h1 h2 h3).ext hext) h hg;obtain⟨g1,a1,a2⟩:=Zf hc (λj hj o t h1 h2=>hb j o t (by simp_all[SP.steps]) h1 h2) h1 g2;refine⟨g1,λσ H hh=>b1 _ _<|a1 _ _ hh,λτ hτ j hj=>?_⟩;rcases List.mem_cons.1 hτ with rfl|hτ;·obtain⟨o,t,c1,c2,c3⟩:=a2 j hj;refine⟨o,t,c1,c2,c3.imp id ?_⟩;rintro⟨H,H',c1,c2,c3⟩;exact⟨H,H',b1 _ _ c1,c2,b1 _ _ c3⟩
   grind
  ·cases h
theorem A4s {call:CallS}(hc:Dp P W0 call){n:Nat}{o:AOper}{t:Tr}{σ j:Nat}{M M':HMap}{ss s1:SS}(h:M6 G call n o t σ j M ss=some (M',s1))(hg:Gd P W0 s1):Gd P W0 ss:=by
 unfold M6 at h;cases hbq:Nat.beq σ t.σ with
 |true=>rw[hbq,cond_true]at h;simp only[iS,iP]at h;obtain⟨rfl,rfl⟩:=h;exact hg
 |false=>
  rw[hbq,cond_false]at h;split at h;·exact(W4 hc h hg).1
  ·unfold L7 at h;repeat' (split at h)
   all_goals first
    |(cases h;done)
    |(simp only[iS,iP]at h;obtain⟨_,rfl⟩:=h;exact hg.ob.1.ob.1)
    |(simp only[iS,iP]at h;obtain⟨_,rfl⟩:=h;exact hg.ob.1)
  ·unfold Jh at h;repeat' (split at h)
   all_goals first
    |(cases h;done)
    |(
     revert h;cases(Nat.beq _ _&&(B9 _ _&&Ab _ _))with
     |false=>intro h;cases h
     |true=>
      intro h;rw[cond_true]at h;simp only[iS,iP]at h;obtain⟨_,rfl⟩:=h;first
       |exact hg.ob.1.ob.1|exact hg.ob.1)
  ·cases h
theorem Yq {call:CallS}(hc:Dp P W0 call){n:Nat}{ops':List AOper}{l:List Tr}{σ:Nat}:∀{js:List Nat}{M M':HMap}{ss s1:SS},Jl G call n ops' l σ js M ss=some (M',s1)→Gd P W0 s1→Gd P W0 ss
 | [],M,M',ss,s1,h,hg=>by grind[Jl]
 |j::r,M,M',ss,s1,h,hg=>by
  simp only[Jl]at h;split at h
  ·split at h
   ·split at h;·rename_i M1 s2 h1;exact A4s hc h1 (Yq hc h hg)
    ·cases h
   ·cases h
  ·cases h
theorem U2 {call:CallS}(hc:Dp P W0 call){p:SP}{n:Nat}{ops':List AOper}{l:List Tr}:∀{sts:List Nat}{M M':HMap}{ss s1:SS},Iq G call p n ops' l sts M ss=some (M',s1)→Gd P W0 s1→Gd P W0 ss
 | [],M,M',ss,s1,h,hg=>by grind[Iq]
 |σ::r,M,M',ss,s1,h,hg=>by
  simp only[Iq]at h;split at h;·rename_i M1 s2 h1;exact Yq hc h1<|U2 hc h hg
  ·cases h
theorem A8a (hm:P.follows .mixedOrders=true)(hG:GOK W0 G){call:CallS}(hc:Dp P W0 call){id:Nat}{ops:Array Oper}{l:List AOper}(hl:Bc P ops ops.toList=some l){sp:SP}(hok:J1 P ops sp=true){s t:St}{ss s1:SS}(h:A4t G call sp l s ss=some (t,s1))(hg:Gd P W0 s1):
 Gd P W0 ss∧Ex P W0 (.region id ops true) s λe1 t1=>e1= .normal∧t1=t:=by
 unfold A4t at h;split at h
 ·rename_i trs M0 e s2 hseq;split at h
  ·rename_i M s3 hloud;cases hlin:exB sp M with
   |false=>rw[hlin]at h;cases h
   |true=>
   rw[hlin,cond_true]at h;split at h
   ·rename_i obs hq;split at h
    ·rename_i Hfin hfin;simp only[iS,iP]at h;obtain⟨rfl,rfl⟩:=h;obtain⟨hlen,hcg⟩:=Da hl;have hN:sp.n=ops.size∧∀(j:Nat) (o:Oper),ops[j]?=some o→sp.kind.getD j 0=Do P o:=by simp_all[J1,aSi,Tn]
     have hkop:∀(o:Oper) (a:AOper),Be P ops o=some a→Do P o=a.op.kind:=by grind[Be,Do]
     obtain⟨q1,q2⟩:=Za (P:=P) (W0:=W0) hq hg λk a ha h1=>by
      rw[Nat.zero_add]at h1;have hkl:k<ops.size:=by grind
      obtain⟨a',b1,b2⟩:=hcg k ops[k] (by simp[hkl])<;>grind
     have q1':=U2 hc hloud q1;obtain⟨g1,h1',h2,h3,h4'⟩:=A11 hc l 0 s.env 0 s.H [(0,s.H)] hseq (Db _ _ _) q1'
     obtain⟨_,hM,hL⟩:=U0 hc (λj o t hj ho ht=>by
      obtain⟨t',Hk,H',a1,a2,a3,a4,a5,a6⟩:=h4' j o ho;rw[ht]at a1;injection a1 with a1;subst a1;rw[Nat.zero_add]at a5
      exact⟨Hk,H',a3,a4,a5 hj⟩) hloud q1
     have h1:Ff [(0,s.H)] M:=λσ H hh=>hM _ _<|h1' _ _ hh;have h4:∀k o,l[k]?=some o→∃t Hk H',trs[k]?=some t∧Eq o.dst s.n=true∧lkH t.σ M=some Hk∧(Bl P W0 G o ⟨t.env,Hk,s.n⟩ λv' H''=>v'=t.v∧H''=H')∧
      (sp.eff (0+k)=true→lkH (SP.nxt t.σ<|0+k) M=some H')∧envOf trs e (k+1)=G3 o.dst t.v t.env:=by
      intro k o ho;obtain⟨t,Hk,H',a1,a2,a3,a4,a5,a6⟩:=h4' k o ho;exact⟨t,Hk,H',a1,a2,hM _ _ a3,a4,λhe=>hM _ _<|a5 he,a6⟩
     refine⟨g1,?_⟩;have hall:∀(j:Nat) (o:Oper),ops[j]?=some o→∃a t Hk H',l[j]?=some a∧Be P ops o=some a∧trs[j]?=some t∧Eq o.dst s.n=true∧lkH t.σ M=some Hk∧(Bl P W0 G a ⟨t.env,Hk,s.n⟩ λv' H''=>v'=t.v∧H''=H')∧(sp.eff j=true→lkH (SP.nxt t.σ j) M=some H')∧envOf trs e (j+1)=G3 o.dst t.v t.env:=by intro j o ho;obtain⟨a,ha1,ha2⟩:=hcg j o (by grind)<;>grind[D9]
     have hex:∀σ∈sp.states,∃H,lkH σ M=some H:=λσ hσ=>Option.isSome_iff_exists.1<|List.all_eq_true.1 hlin σ hσ;obtain⟨p,hp,heq⟩:=Sv (P:=P) (W0:=W0) (G:=G) (s:=s) hok (l:=trs) (M':=M) (ef:=e) (Hfin:=Hfin) (by grind) h3 (h1 _ _<|Db _ _ _)
      (λj o ho=>by grind)
      (λj o t ho ht hk σ hσ hmay=>by
       obtain⟨a,t',Hk,H',b1,b2,b3,b4,b5,b6,b7,b8⟩:=hall j o ho;rw[ht]at b3;injection b3 with b3;subst b3;obtain⟨H2,hH2⟩:=hex σ hσ;refine⟨H2,hH2,?_⟩;have hk0:Do P o=0∨Do P o=1:=Y;rcases hk0 with hk0|hk1;·exact Ls hk0<|I3 b2 b6
       ·rcases q2 j a t b1 ht (by grind) σ hσ (by grind)with rfl|⟨H3,c1,c2⟩
        ·rw[b5]at hH2;injection hH2 with hH2;subst hH2;have hop:a.op.kind≤1:=by grind
         have:=A2e hop b6;simp_all[I3]
        simp_all[I3])
      (λσ hσ j hj=>by
       have hjj:=hj;unfold SP.steps at hjj;rw[List.mem_filter,List.mem_range]at hjj;obtain⟨hjn,hje⟩:=hjj;simp only[bAt]at hje;have hjs:j<ops.size:=Y;have ho:ops[j]?=some ops[j]:=Array.getElem?_eq_getElem hjs;obtain⟨a,t,Hk,H',b1,b2,b3,b4,b5,b6,b7,b8⟩:=hall j _ ho
       obtain⟨a',t',c1,c2,c3⟩:=hL σ hσ j hj<;>grind[I3])
      hfin
     grind[Ex.draw]
    ·cases h
   ·cases h
  ·cases h
 ·cases h
theorem A9t (hm:P.follows .mixedOrders=true)(hG:GOK W0 G){call:CallS}(hc:Dp P W0 call){id:Nat}{ops:Array Oper}{s t:St}{ss s1:SS}(h:Aav P G call ops s ss=some (t,s1))(hg:Gd P W0 s1):
 Gd P W0 ss∧Ex P W0 (.region id ops true) s λe1 t1=>e1= .normal∧t1=t:=by
 unfold Aav at h;split at h
 ·rename_i l hl;cases hsp:J1 P ops (Ep P ops.toList)with
  |false=>rw[hsp]at h;cases h
  |true=>rw[hsp,cond_true]at h;exact A8a hm hG hc hl hsp h hg
 ·cases h
def Zv (P:Program)(W0:World)(c:Code)(body:St→SS→Option (Ai×St×SS)):Prop:=∀s ss e s' s1,body s ss=some (e,s',s1)→Gd P W0 s1→Gd P W0 ss∧Ex P W0 c s λe1 t1=>e1=e∧t1=s'
theorem Xh {c:Code}{body:St→SS→Option (Ai×St×SS)}(hb:Zv P W0 c body):∀{n:Nat}{s:St}{ss:SS}{e:Ai}{s':St}{s1:SS},loopS body n s ss=some (e,s',s1)→Gd P W0 s1→Gd P W0 ss
 |0,_,_,_,_,_,h,_=>I5
 |n+1,s,ss,e,s',s1,h,hg=>by
  simp only[loopS]at h;split at h;·rename_i t t1 h1;exact(hb _ _ _ _ _ h1<|Xh hb h hg).1
  ·exact(hb _ _ _ _ _ h hg).1
theorem Abg {c:Code}{body:St→SS→Option (Ai×St×SS)}(hb:Zv P W0 c body){n:Nat}{s:St}{ss:SS}{e:Ai}{s':St}{s1:SS}(h:loopS body n s ss=some (e,s',s1))(hg:Gd P W0 s1):
 Ex P W0 (.loop c) s λe1 t1=>e1=e∧t1=s':=by
 refine Ex.loop (σ:=Nat) (λn s=>∃ss,loopS body n s ss=some (e,s',s1)) id (i:=n) ⟨ss,h⟩ ?_;rintro n s ⟨ss,h⟩;cases n with
 |zero=>cases h
 |succ n=>
  simp only[loopS]at h;split at h;·rename_i t t1 h1;have hgt:=Xh hb h hg;refine((hb _ _ _ _ _ h1 hgt).2).mono ?_;grind
  ·rename_i hne;refine((hb _ _ _ _ _ h hg).2).mono ?_;rintro e2 s2 ⟨rfl,rfl⟩;cases e2<;>grind
theorem Oy (hm:P.follows .mixedOrders=true)(hG:GOK W0 G){call:CallS}(hc:Dp P W0 call):∀(n:Nat) {c:Code},Zv P W0 c (X9 P G call n c)
 |0,_,_,_,_,_,_,h,_=>I5
 |n+1,c,s,ss,e,s',s1,h,hg=>by
  have ih:=λ{c:Code}=>@Oy hm hG call hc n c;simp only[X9]at h;cases c<;>simp only[Yx]at h<;>try (cases h;done)
  case skip=>grind[Ex.skip]
  case exit id=>grind[Ex.exit]
  case ret=>grind[Ex.ret]
  case region id ops d=>grind[A9t,Xn,Ex.region]
  case seq x y=>
   split at h;·rename_i t t1 h1;obtain⟨k1,k2⟩:=ih _ _ _ _ _ h hg;obtain⟨k3,k4⟩:=ih _ _ _ _ _ h1 k1;refine⟨k3,Ex.seq<|k4.mono ?_⟩;grind
   ·rename_i hne;obtain⟨k3,k4⟩:=ih _ _ _ _ _ h hg;refine⟨k3,Ex.seq<|k4.mono ?_⟩;rintro e2 s2 ⟨rfl,rfl⟩;cases e2<;>grind
  case cond c x y=>
   split at h
   ·rename_i c' hc';split at h
    ·rename_i b hb;cases b with
     |true=>obtain⟨k1,k2⟩:=ih _ _ _ _ _ h hg;exact⟨k1,Ex.cond hG hc' hb (λ_=>k2) (λe=>by cases e)⟩
     |false=>obtain⟨k1,k2⟩:=ih _ _ _ _ _ h hg;exact⟨k1,Ex.cond hG hc' hb (λe=>by cases e)<|λ_=>k2⟩
    ·cases h
   ·cases h
  case block id c=>
   split at h
   ·rename_i j t t1 h1;have hgt:Gd P W0 t1:=by grind
    obtain⟨k3,k4⟩:=ih _ _ _ _ _ h1 hgt;refine⟨k3,Ex.block<|k4.mono ?_⟩;grind
   ·rename_i hne;obtain⟨k3,k4⟩:=ih _ _ _ _ _ h hg;refine⟨k3,Ex.block<|k4.mono ?_⟩;rintro e2 s2 ⟨rfl,rfl⟩;cases e2<;>grind
  grind[Xh,Abg]
theorem A7s {fn:Func}{kp:Bool}{H:Hz}{r:Option (Ai×St×SS)}{v:AVal}{H':Hz}{ss:SS}(h:finS P fn kp H r=some (v,H',ss)):∃e s,r=some (e,s,ss)∧(match e with|.exit _=>False|_=>True)∧∃vs,Dx P s fn.results.toList=some vs∧(L5 H.length (C9 vs) s.H=(v,H')∨(C9 vs,s.H)=(v,H')):=by
 unfold finS at h;split at h
 ·rename_i e s ss';split at h;·rename_i v' H'' hf;simp only[iS,iP]at h;obtain⟨rfl,rfl,rfl⟩:=h<;>grind[Ads]
  ·cases h
 ·cases h
theorem Wc (hm:P.follows .mixedOrders=true)(hG:GOK W0 G){idle:Nat→Option Nat}(hi:∀g m,idle g=some m→Ud P g m∧Ed P g){tab:CallF}(ht:E6 P W0 tab){keep opq:Nat→Bool}(fuel:Nat):∀d,Dp P W0 (G6 P G keep opq idle tab fuel d)
 |0,_,_,_,_,_,_,_,h,_=>I5
 |d+1,f,args,H,ss,v,H',s1,h,hg=>by
  have ih:=Wc hm hG hi ht (keep:=keep) (opq:=opq) fuel d;simp only[G6]at h;cases hq:opq f with
  |true=>
   rw[hq,cond_true]at h;unfold ansS at h;split at h
   ·rename_i v0 r0 _;cases hb:cond (Ab 0 args) (blw 0 v0) false with
    |false=>rw[hb]at h;cases h
    |true=>rw[hb]at h;simp only[cond_true,iS,iP]at h;obtain⟨rfl,rfl,rfl⟩:=h;obtain⟨b1,b2⟩:=O2 hb;exact⟨λo ho=>hg o (by simp[ho]),A5.pure b1 b2 (hg (.call f args _) Ax) H⟩
   ·rename_i v0 H0 r0 _;simp only[iS,iP]at h;obtain⟨rfl,rfl,rfl⟩:=h;exact⟨λo ho=>hg o (by simp[ho]),hg (.callH f args H _ _) Ax⟩
   ·cases h
  |false=>
   rw[hq,cond_false]at h;split at h;·rename_i r hr;simp only[iS,iP]at h;obtain⟨rfl,rfl,rfl⟩:=h;exact⟨hg,ht _ _ _ _ _ hr⟩
   ·split at h
    ·rename_i fn hfn;split at h
     ·rename_i c hc;cases hla:(Nat.ble args.length 4094&& !(fn.name== "runtime.NumGoroutine"))with
      |false=>rw[hla]at h;cases h
      |true=>
       rw[hla,cond_true]at h;simp only[bAt,Bool.not_eq_true',bFn]at hla;have hlen:=Nat.le_of_ble_eq_true hla.1;obtain⟨e,s,hrun,hpost⟩:=A7s h;split at hrun
       ·rename_i b hb;have hsh:∃r0 r1 id ops rest,c= .seq r0 (.seq r1<|.seq (.region id ops false) rest)∧Xp idle r0 r1 id rest ops.toList=some b:=by unfold Oz at hb;grind
        obtain⟨r0,r1,id,ops,rest,rfl,hb⟩:=hsh;obtain⟨k1,k2,k3,k4,k5,k6,k7,k8,k9⟩:=Wa hb;obtain⟨hidle,hgb⟩:=hi _ _ k9;subst k1;subst k2;subst k3;subst k4;have hops:ops= #[b.o0,b.o1]:=by grind
        unfold Abk at hrun;split at hrun
        ·rename_i s0 t0 he0;split at hrun
         ·rename_i s1' t1 he1;split at hrun
          ·rename_i s2 t2 he2;cases hfa:A7z s2.env b.t b.g b.m with
           |false=>rw[hfa]at hrun;cases hrun
           |true=>
            rw[hfa,cond_true]at hrun;obtain⟨g3,x3⟩:=Oy hm hG ih fuel _ _ _ _ _ hrun hg;obtain⟨g2,x2⟩:=Yh (G:=G) ih he2 g3;obtain⟨g1,x1⟩:=Oy hm hG ih fuel _ _ _ _ _ he1 g2;obtain⟨g0,x0⟩:=Oy hm hG ih fuel _ _ _ _ _ he0 g1;refine⟨g0,A5.of_defer hG hfn hc hla.2 hidle hgb hops k6 k7 k8 hlen<|x0.mono ?_⟩;rintro e1 s1'' ⟨rfl,rfl⟩;refine⟨Z,x1.mono ?_⟩;rintro e1 s1'' ⟨rfl,rfl⟩;refine⟨Z,?_⟩;rw[hops];refine x2 ⟨?_,x3.mono ?_⟩;·unfold A7z at hfa;split at hfa<;>simp_all
            ·grind
          grind
         grind
        grind
       ·obtain⟨g0,x0⟩:=Oy hm hG ih fuel _ _ _ _ _ hrun hg;refine⟨g0,A5.of_ex hfn hc hla.2 hlen<|x0.mono ?_⟩;grind
     ·cases h
    ·cases h
end
def ss0 (k:Nat)(br:List<|Bool×Nat)(sk:Nat)(sd:List Nat)(ans:List<|AVal×Option Hz)(dr:List Nat):SS:=⟨k,br,sk,sd,ans,dr,[]⟩
theorem E4 {P:Program}{W0:World}{call:CallS}(hc:Dp P W0 call){f:Nat}{args:List AVal}{H:Hz}{ss s1:SS}{v:AVal}{H':Hz}(h:call f args H ss=some (v,H',s1))(hg:∀o∈s1.obs,o.ok P W0):A5 P W0 f args H v H':=(hc _ _ _ _ _ _ _ h hg).2
theorem gdN {P:Program}{W0:World}:∀o∈([]:List Ob),o.ok P W0:=λo h=>I5
theorem gdC {P:Program}{W0:World}{o:Ob}{l:List Ob}(h:o.ok P W0)(hl:∀o∈l,o.ok P W0):∀o'∈o::l,o'.ok P W0:=λo' h'=>by grind
section
variable {F F' : Nat → Prop} {bs bs0 : List Nat} {H H0 : Hz} {w : World} {ρ : Nat → Nat} {m : Nat}
theorem A5.renG {P:Program}{W0:World}{f:FuncId}{args:List AVal}{H H0 H0':Hz}{v:AVal}(sel:List Nat)(ρ:Nat→Nat)(hs:Sel sel H0.length H0 H ρ)(hbH:B9 H0.length H0=true)(hba:Ab H0.length args=true)
 (hl:H0.length≤H0'.length) (hρ:∀j,H0.length≤j→j<H0'.length→ρ j=H.length+(j-H0.length)) (hc:A5 P W0 f args H0 v H0'):A5 P W0 f (Gn ρ args) H (Abs.ren ρ v) (F2 (sel++List.range' H.length (H0'.length-H0.length)) (H0'.map<|I2 ρ)<|H++List.replicate (H0'.length-H0.length) .dead):=by
 refine⟨hc.1,λF bs w cargs hh hr=>?_⟩;have hbl:bs.length=H.length:=hh.len;let bs0:List Nat:=sel.map λi=>bs.getD i 0;have hbs0:∀j i,sel[j]?=some i→bs0[j]?=bs[i]?:=λj i hj=>by
  have hi:i<bs.length:=by rw[hbl];exact hs.lt i<|mGe hj
  show(sel.map λi=>bs.getD i 0)[j]?=bs[i]?;grind
 have hbsl:bs0.length=H0.length:=bY206;have hsub:∀b,b∈bs0→b∈bs:=λb hb=>by grind[List.getElem?_of_mem]
 let F':Nat→Prop:=λb=>F b∨(b∈bs∧b∉bs0);have hdown:A7l F F' bs bs0 H H0 ρ H0.length:=by refine⟨λj hj=>?_,λj hj=>hbs0 j (ρ j)<|hs.rho j hj,hsub,λb hb=>hb.imp id And.left⟩;exact⟨H0[j],gGe hj,hs.get j _<|gGe hj⟩
 have hnd0:bs0.Nodup:=by
  refine Ru λi j b hij h1 h2=>?_;have hi':i<sel.length:=by grind
  have hj':j<sel.length:=by grind
  rw[hbs0 i _<|gGe hi']at h1;rw[hbs0 j _<|gGe hj']at h2;have:=Du hh.nodup h1 h2;have h2:=Du hs.nd (i:=i) (j:=j) (gGe hi') (by grind);omega
 have hh0:Ad W0 F' bs0 H0 w:=by
  refine⟨hbsl,hh.base,λb hb=>hh.low b<|hsub b hb,hnd0,λb hb=>?_,λi o b hi hb=>?_⟩
  ·rcases hb with hb|⟨hb,hn⟩;·obtain⟨q1,q2,q3⟩:=hh.forb b hb<;>grind
   ·exact⟨(hh.low b hb).1,(hh.low b hb).2,hn⟩
  ·have hil:i<H0.length:=(List.getElem?_eq_some_iff.1 hi).1;have hb':bs[ρ i]?=some b:=by rw[←hdown.blk i hil];exact hb
   have ho:=hh.obj (ρ i) (I2 ρ o) b (hs.get i o hi) hb';cases o with
   |dead=>trivial|iter s p=>exact ho|mp es=>exact ho
   |cells T cs op=>
    have hcs:=Oq hbH hi;cases op with
    |false=>obtain⟨vs,rest,fr,q1,q2,q3⟩:=ho;exact⟨vs,rest,fr,q1,Aa.down hdown cs vs hcs q2,q3⟩
    |true=>obtain⟨vs,rest,fr,q1,q2,q3⟩:=ho;exact⟨vs,rest,fr,q1,Aa.down hdown cs vs hcs q2,q3⟩
 refine Calls.mono (hc.2 F' bs0 w cargs hh0<|Aa.down hdown args cargs hba hr) λe w' he=>?_;obtain⟨cv,bs0',rfl,hv,hh',he'⟩:=he;let k:=H0'.length-H0.length;let sel':=sel++List.range' H.length k;let Hp:=H++List.replicate k HObj.dead;let bp:=bs++List.replicate k 0;have hHp:Hp.length=H.length+k:=by grind
 have hbp:bp.length=H.length+k:=by grind
 have hselN:∀i,i∈List.range' H.length k↔H.length≤i∧i<H.length+k:=λi=>by grind
 have hnd':sel'.Nodup:=List.nodup_append.2 ⟨hs.nd,List.nodup_range',λa ha b hb e=>by
  subst e;have:=hs.lt _ ha
  grind⟩
 have hsl':sel'.length=H0'.length:=by grind
 have hl0':bs0'.length=sel'.length:=by rw[hh'.len,hsl']
 have hsl:sel'.length=H0'.length:=hsl';have hlt':∀i∈sel',i<H.length+k:=λi hi=>by
  rcases List.mem_append.1 hi with h|h;·have:=hs.lt _ h;omega
  grind
 let H':=F2 sel' (H0'.map<|I2 ρ) Hp;let bs':=F2 sel' bs0' bp;have hH'l:H'.length=H.length+k:=by grind[Gu]
 have hbs'l:bs'.length=H.length+k:=by grind[Gu]
 have inj0:∀(j:Nat),j<H0.length→sel[j]?=some (ρ j):=hs.rho;have inj:∀(j:Nat),j<H0'.length→sel'[j]?=some (ρ j):=λj hj=>by grind
 have getO:∀j o,H0'[j]?=some o→H'[ρ j]?=some (I2 ρ o):=λj o ho=>by grind[Ic]
 have getB:∀j b,bs0'[j]?=some b→bs'[ρ j]?=some b:=λj b hb=>by grind[Ic]
 have noSel:∀i,i<H.length→(i∈sel'↔i∈sel):=λi hi=>by grind
 have noO:∀i,i<H.length→i∉sel→H'[i]?=H[i]?:=λi hl hi=>by grind[If]
 have noB:∀i,i<H.length→i∉sel→bs'[i]?=bs[i]?:=λi hl hi=>by grind[If]
 have selj:∀i,i∈sel→∃j,j<H0.length∧ρ j=i∧sel[j]?=some i:=λi hi=>by grind[List.getElem?_of_mem]
 have getB':∀i b,bs'[i]?=some b→(i<H.length∧i∉sel∧bs[i]?=some b)∨∃j,j<H0'.length∧ρ j=i∧bs0'[j]?=some b:=λi b hb=>by
  have hi:i<H.length+k:=by grind
  have yes:∀j,j<H0'.length→ρ j=i→bs0'[j]?=some b:=λj hj he=>by grind
  by_cases hil:i<H.length;·by_cases his:i∈sel;all_goals grind
  ·have hj:H0.length+(i-H.length)<H0'.length:=by omega
   have he:ρ (H0.length+(i-H.length))=i:=by grind
   grind
 have notin:∀i b,i∉sel→bs[i]?=some b→b∉bs0:=λi b hi hb hm=>by
  obtain⟨j,hj⟩:=List.getElem?_of_mem hm;have hjl:j<sel.length:=by grind
  rw[hbs0 j sel[j]<|gGe hjl]at hj;have:=Du hh.nodup hb hj;grind
 have memB':∀b,b∈bs'→(b∈bs∧b∉bs0)∨b∈bs0':=λb hb=>by obtain⟨i,hi⟩:=List.getElem?_of_mem hb;rcases getB' i b hi with⟨_,h1,h2⟩|⟨j,_,_,h3⟩<;>grind
 have hup:Up F F' bs' bs0' H' H0' ρ:=by refine⟨getO,getB,λb hb hf=>⟨λhm=>?_,λhF=>hf<|.inl hF⟩⟩<;>grind
 have hext:Ext bs H w bs' H' w':=by
  refine⟨he'.size,λk hk hn=>he'.block k hk λhm=>hn<|hsub k hm,λk hk=>?_,λi o ho=>?_⟩
  ·rcases memB' k hk with h1|h1;·grind
   ·rcases he'.new k h1 with h2|h2<;>grind
  ·by_cases hi:i∈sel
   ·obtain⟨j,hj,rfl,hsj⟩:=selj i hi;have ho0:=gGe hj;have hoo:=hs.get j _ ho0;rw[ho]at hoo;injection hoo with hoo;obtain⟨o',hj',hx⟩:=he'.obj j _ ho0;refine⟨I2 ρ o',getO j o' hj',?_⟩;have hbj:bs0[j]?=bs[ρ j]?:=hbs0 j _ hsj;have hbj':bs0'[j]?=bs'[ρ j]?:=by grind
    rw[hoo];cases hc0:H0[j]with
    |dead=>rw[hc0]at hx;simp only[Bd]at hx;subst hx;rfl
    |iter s p=>
     rw[hc0]at hx;rcases hx with rfl|⟨s',p',rfl,hb⟩;·exact .inl Z
     ·exact .inr ⟨s',p',Z,by grind⟩
    |mp es=>
     rw[hc0]at hx;rcases hx with rfl|⟨es',rfl,hb⟩;·exact .inl Z
     ·exact .inr ⟨es',Z,by grind⟩
    |cells T cs op=>
     rw[hc0]at hx;cases op with
     |false=>
      rcases hx with rfl|⟨T',cs',rfl,h1,hb⟩;·exact .inl Z
      ·exact .inr ⟨T',_,Z,by grind[Dc],by grind⟩
     |true=>
      rcases hx with rfl|⟨T',cs',rfl,h1⟩;·exact .inl Z
      ·refine .inr ⟨T',_,Z,?_⟩<;>grind[Dc]
   ·have hil:=(List.getElem?_eq_some_iff.1 ho).1;refine⟨o,by grind,?_⟩;have hb:=noB i hil hi;have hz:∀b,bs[i]?=some b→D4 w' b=D4 w b:=λb hb'=>by unfold D4;rw[he'.block b (hh.low b<|mGe hb').2 (notin i b hi hb')]
    cases o with|dead=>rfl|iter s p=>exact .inr ⟨s,p,rfl,hb⟩|mp es=>exact .inr ⟨es,rfl,hb⟩|cells T cs op=>cases op with|false=>exact .inr ⟨T,cs,rfl,rfl,hb⟩|true=>exact .inr ⟨T,cs,rfl,.inr ⟨rfl,hb,hz⟩⟩
 refine⟨cv,bs',Z,Rep.up hup v cv hv,?_,hext⟩;refine⟨by grind,hh'.base,λb hb=>?_,?_,λb hb=>?_,λi o b hi hb=>?_⟩
 ·rcases memB' b hb with h1|h1;·exact⟨(hh.low b h1.1).1,nLl (hh.low b h1.1).2 he'.size⟩
  ·exact hh'.low b h1
 ·refine Ru λi j b hij e hb=>?_;rcases getB' i b e with⟨_,h1,h2⟩|⟨i',h1,h2,h3⟩<;>rcases getB' j b hb with⟨_,k1,k2⟩|⟨j',k1,k2,k3⟩;·have:=Du hh.nodup h2 k2;omega
  ·exact(hh'.forb b<|.inr ⟨mGe h2,notin i b h1 h2⟩).2.2 (mGe k3)
  ·exact(hh'.forb b<|.inr ⟨mGe k2,notin j b k1 k2⟩).2.2 (mGe h3)
  ·have:=Du hh'.nodup h3 k3;grind
 ·obtain⟨q1,q2,q3⟩:=hh'.forb b<|.inl hb;refine⟨q1,q2,λhm=>?_⟩;rcases memB' b hm with h1|h1;·exact(hh.forb b hb).2.2 h1.1
  grind
 ·rcases getB' i b hb with⟨h0,h1,h2⟩|⟨j,hjl,rfl,h3⟩;·rw[noO i h0 h1]at hi;exact(hh.obj i o b hi h2).ext hext (he'.block b (hh.low b<|mGe h2).2 (notin i b h1 h2))
  ·have h4:=getO j _<|gGe hjl;rw[hi]at h4;injection h4 with h4;have h5:=hh'.obj j _ b (gGe hjl) h3;rw[h4];cases hc0:H0'[j]with
   |dead=>trivial|iter s p=>rw[hc0]at h5;exact h5|mp es=>rw[hc0]at h5;exact h5
   |cells T cs op=>
    rw[hc0]at h5;cases op with
    |false=>obtain⟨vs,rest,fr,q1,q2,q3⟩:=h5;exact⟨vs,rest,fr,q1,Aa.up hup cs vs q2,q3⟩
    |true=>obtain⟨vs,rest,fr,q1,q2,q3⟩:=h5;exact⟨vs,rest,fr,q1,Aa.up hup cs vs q2,q3⟩
end
def bt (s:Bz)(k:Nat):Nat:=(s.getD k 0).toNat
theorem get_bt (s:Bz)(k:Nat):((⟨s.toArray⟩:ByteArray).get! k).toNat=bt s k:=by
 have:(⟨s.toArray⟩:ByteArray).get! k=s.getD k 0:=by
  show(s.toArray)[k]! =_;by_cases h:k<s.length;·simp[h]
  ·simp[h];rfl
 rw[this];rfl
def Kr (s:Bz)(i n:Nat):Prop:=i+n≤s.length∧
 ((n=1∧bt s i<128)∨(n=2∧194≤bt s i∧bt s i≤223∧128≤bt s (i+1)∧bt s (i+1)≤191)
  ∨(n=3∧224≤bt s i∧bt s i≤239∧128≤bt s (i+1)∧bt s (i+1)≤191∧(bt s i=224→160≤bt s (i+1))∧(bt s i=237→bt s (i+1)≤159)∧128≤bt s (i+2)∧bt s (i+2)≤191)
  ∨(n=4∧240≤bt s i∧bt s i≤244∧128≤bt s (i+1)∧bt s (i+1)≤191∧(bt s i=240→144≤bt s (i+1))∧(bt s i=244→bt s (i+1)≤143)∧128≤bt s (i+2)∧bt s (i+2)≤191∧128≤bt s (i+3)∧bt s (i+3)≤191))
theorem A7v (s:Bz)(i:Nat):Utf8.decode ⟨s.toArray⟩ i=
 (if bt s i<128 then(bt s i,1)
 else if bt s i/32==6&&(decide (i+1<s.length)&&bt s (i+1)/64==2)then
  (if(bt s i%32)*64+bt s (i+1)%64≥128 then((bt s i%32)*64+bt s (i+1)%64,2)else(Utf8.runeError,1))
 else if bt s i/16==14&&(decide (i+1<s.length)&&bt s (i+1)/64==2)&&(decide (i+2<s.length)&&bt s (i+2)/64==2)then
  (if(bt s i%16)*4096+(bt s (i+1)%64)*64+bt s (i+2)%64≥2048&&Utf8.valid (((bt s i%16)*4096+(bt s (i+1)%64)*64+bt s (i+2)%64:Nat))then((bt s i%16)*4096+(bt s (i+1)%64)*64+bt s (i+2)%64,3)else(Utf8.runeError,1))
 else if bt s i/8==30&&(decide (i+1<s.length)&&bt s (i+1)/64==2)&&(decide (i+2<s.length)&&bt s (i+2)/64==2)&&(decide (i+3<s.length)&&bt s (i+3)/64==2)then
  (if(bt s i%8)*262144+(bt s (i+1)%64)*4096+(bt s (i+2)%64)*64+bt s (i+3)%64≥65536&&Utf8.valid (((bt s i%8)*262144+(bt s (i+1)%64)*4096+(bt s (i+2)%64)*64+bt s (i+3)%64:Nat))then((bt s i%8)*262144+(bt s (i+1)%64)*4096+(bt s (i+2)%64)*64+bt s (i+3)%64,4)else(Utf8.runeError,1))
 else(Utf8.runeError,1)):=by
 simp_all[ByteArray.size,Utf8.decode,get_bt]
theorem A75 {s:Bz}{i n:Nat}(h:Kr s i n):(Utf8.decode ⟨s.toArray⟩ i).2=n∧(bt s i<128→(Utf8.decode ⟨s.toArray⟩ i).1=bt s i)∧(128≤bt s i→128≤(Utf8.decode ⟨s.toArray⟩ i).1∧2≤n):=by
 obtain⟨hl,h⟩:=h;rw[A7v];rcases h with⟨rfl,h⟩|⟨rfl,h1,h2,h3,h4⟩|⟨rfl,h1,h2,h3,h4,h5,h6,h7,h8⟩|⟨rfl,h1,h2,h3,h4,h5,h6,h7,h8,h9,h10⟩;·grind
 ·grind
 ·generalize bt s i=a at*;generalize bt s (i+1)=b at*;generalize bt s (i+2)=c at*;have e0:¬a/32=6:=Y;have e1:a/16=14:=Y;have e2:b/64=2:=Y;have e2':c/64=2:=Y;have e3:i+1<s.length:=Y;have e3':i+2<s.length:=Y;have e4:a%16*4096+b%64*64+c%64≥2048:=Y;have e5:Utf8.valid ((a%16*4096+b%64*64+c%64:Nat))=true:=by simp only[Utf8.valid,Bool.or_eq_true,bAt,dTe];omega
  grind
 ·generalize bt s i=a at*;generalize bt s (i+1)=b at*;generalize bt s (i+2)=c at*;generalize bt s (i+3)=d at*;have e0:¬a/32=6:=Y;have e0':¬a/16=14:=Y;have e1:a/8=30:=Y;have e2:b/64=2:=Y;have e2':c/64=2:=Y;have e2'':d/64=2:=Y;have e3:i+1<s.length:=Y;have e3':i+2<s.length:=Y;have e3'':i+3<s.length:=Y;have e4:a%8*262144+b%64*4096+c%64*64+d%64≥65536:=Y;have e5:Utf8.valid ((a%8*262144+b%64*4096+c%64*64+d%64:Nat))=true:=by simp only[Utf8.valid,Bool.or_eq_true,bAt,dTe];omega
  grind
inductive Txt (s:Bz):Nat→Prop where
 |done:Txt s s.length|step {i n:Nat}:Kr s i n→32≤bt s i→bt s i≠127→Txt s (i+n)→Txt s i
theorem Kr.pos {s:Bz}{i n:Nat}(h:Kr s i n):1≤n:=by obtain⟨_,h⟩:=h;omega
theorem Txt.le {s:Bz}{i:Nat}(h:Txt s i):i≤s.length:=by cases h with|done=>exact Nat.le_refl _|step h _ _ _=>have:=h.1;omega
theorem Rq (s:Bz)(i k:Nat):bt (s.drop i) k=bt s (i+k):=by grind[bt]
theorem Kr.drop {s:Bz}{i n:Nat}(h:Kr s i n):Kr (s.drop i) 0 n:=by obtain⟨h1,h⟩:=h;refine⟨by grind,?_⟩;simp_all[Rq]
theorem Txt.shift {s:Bz}{j:Nat}:∀{i:Nat},Txt s i→∀k,i=j+k→Txt (s.drop j) k:=by
 intro i h;induction h with
 |done=>
  intro k hk;have:k=(s.drop j).length:=by grind
  rw[this];exact .done
 | @step i n h1 h2 h3 _ ih=>intro k hk;subst hk;have hb:bt (s.drop j) k=bt s (j+k):=Rq s j k;refine .step (n:=n) ?_ Y Y<|ih (k+n) Y;obtain⟨q1,q⟩:=h1;refine⟨by grind,?_⟩;simp only[Rq,←Nat.add_assoc];exact q
theorem Txt.validGo {s:Bz}{i:Nat}(h:Txt s i):∀f,Lib.validGoD f (s.drop i)=true:=by
 induction h with
 |done=>intro f;cases f with|zero=>rfl|succ f=>simp[Lib.validGoD]
 | @step i n h1 _ _ _ ih=>
  intro f;cases f with
  |zero=>rfl
  |succ f=>
   unfold Lib.validGoD;split;·rfl
   ·obtain⟨q1,q2,q3⟩:=A75 h1.drop;have hd:Lib.decodeL (s.drop i)=Utf8.decode ⟨(s.drop i).toArray⟩ 0:=rfl;have hb:bt (s.drop i) 0=bt s i:=by rw[Rq,Nat.add_zero]
    rw[hb]at q2 q3;rw[if_neg,hd,q1,List.drop_drop];all_goals grind
theorem Txt.valid {s:Bz}(h:Txt s 0):Lib.validD s=true:=by have:=h.validGo s.length;rw[List.drop_zero]at this;exact this
theorem Txt.rune {s:Bz}{i:Nat}(h:Txt s i)(hi:i<s.length):Txt s (i+(Utf8.decode ⟨s.toArray⟩ i).2)∧32≤(Utf8.decode ⟨s.toArray⟩ i).1∧(Utf8.decode ⟨s.toArray⟩ i).1≠127∧1≤(Utf8.decode ⟨s.toArray⟩ i).2:=by
 cases h with
 |done=>omega
 | @step _ n h1 h2 h3 h4=>
  obtain⟨q1,q2,q3⟩:=A75 h1;have hp:=h1.pos;rw[q1];refine⟨h4,?_,?_,hp⟩;·omega
  ·omega
theorem Txt.plain {s:Bz}(h:∀i,i<s.length→32≤bt s i∧bt s i<127):∀k i,i+k=s.length→Txt s i
 |0,i,hi=>by
  have:i=s.length:=by omega
  subst this;exact .done
 |k+1,i,hi=>by obtain⟨h1,h2⟩:=h i Y;exact .step (n:=1) ⟨Y,.inl ⟨Z,Y⟩⟩ h1 Y<|Txt.plain h k (i+1) Y
section
variable {P : Program} {W0 : World} {G : List (Nat × AVal)} {m : Nat}
theorem Ap {H:Hz}{n id off:Nat}(h:id<n):FzV H n (.ptr id off) (.ptr id off):=.inl ⟨1,Aad⟩
theorem E5 {H:Hz}{n k id off len:Nat}{c:Option Nat}(h:id<n):FzV H n (.hsl k id off len c) (.hsl k id off len c):=.inl ⟨1,Aad⟩
theorem fzA {m:Nat}{l:List (Nat×AVal)}{H:Hz}{n:Nat}{s:St}(k:Nat)(hH:s.H.take k=H:=by rfl)(h:Kp s.H k s.env l:=by
 repeat (first
  |exact fzN|refine fzC C7 (by first|exact fvI|exact fvB|exact fvS|exact Ap V|exact E5 V|exact Bg rfl|exact Bg (by assumption)|apply_assumption-exfalso) ?_)) (hn:n=s.n:=by rfl) (hm:m≤k:=by first|exact Nat.zero_le _|decide) (hb:B9 k H=true:=by first|rfl|(simp only[B9,Ab,blw,cond_true, *];done)|(simp only[B9,Ab,blw,cond_true, *];rfl)):Fz m ⟨.al l,H,n⟩ s:=Aq k hn hm hH hb h
theorem ExM.lp {c y:ACode}{σ τ:Type}(st:σ→St)(I:σ→Prop)(μ:σ→Nat)(i:σ){id:Nat}(po:τ→St)(J:τ→Prop){s:St}{K:Ai→St→Prop}(h0:Fz m (st i) s)(hI:I i)
 (round:∀i,I i→ExM P W0 m c (st i) (loK m st I μ i id po J K)) (rest:∀j,J j→ExM P W0 m y (po j) K):ExM P W0 m (.loop c) s (iK id<|sK P W0 m y K):=by
 refine ExM.loop st I μ i h0 hI λi hi=>(round i hi).mono λe s' h=>?_;cases e with
 |normal=>exact h
 |ret=>
  rcases h with⟨he,_⟩|h;·cases he
  ·exact h.2
 |exit k=>
  show(bif Nat.beq k id then ExM P W0 m y s' K else K (.exit k) s');rcases h with⟨he,j,hj,hs⟩|h;·grind[Nat.beq_refl,ExM.fz]
  ·simp_all
end
section
variable {P : Program} {W0 : World} {G : List (Nat × AVal)} {m : Nat} {l : List (Nat × AVal)} {H : Hz} {n : Nat} {K : St → Prop} {r : List AOper} {d : Nat} {op : AOp}
theorem kD {s:St}{K:Ai→St→Prop}{x:List AOper}{b:Bool}(h:Bo P W0 G x s<|K .normal)(hg:Gr P W0 G:=by assumption):ExM P W0 m (.draw x b) s K:=ExM.draw hg h
theorem nQ {s:St}(h:K s):Bo P W0 G [] s K:=h
theorem vQ {v:AVal}(h:aop G ⟨.al l,H,n⟩ op=some (.val v H []))(k:Bo P W0 G r ⟨.al ((d,v)::l),H,n⟩ K)(hd:(Nat.blt d n&&Nat.blt d 4094)=true:=by with_unfolding_all rfl):Bo P W0 G (⟨some d,none,op⟩::r) ⟨.al l,H,n⟩ K:=Ak h hd trivial k
end
section
variable {P : Program} {W0 : World} {m : Nat} {c : ACode} {K : Ai → St → Prop} {s : St}
def uK (P:Program)(W0:World)(m:Nat)(c:ACode)(K:Ai→St→Prop)(n:Nat)(e:Ai)(s:St):Prop:=e.then s (Mc P W0 m c K n) K
theorem ExM.un (n:Nat)(h:ExM P W0 m c s<|uK P W0 m c K n):ExM P W0 m (.loop c) s K:=ExM.unroll (n+1) h
theorem uN {n:Nat}(h:ExM P W0 m c s<|uK P W0 m c K n):uK P W0 m c K (n+1) .normal s:=h
theorem uE {n i:Nat}(h:K (.exit i) s):uK P W0 m c K n (.exit i) s:=h
theorem uR {n:Nat}(h:K .ret s):uK P W0 m c K n .ret s:=h
end
def FzL (H:Hz)(n:Nat):List AVal→List AVal→Prop
 | [],[]=>True|a::r,b::q=>FzV H n a b∧FzL H n r q|_,_=>False
def FrO (H:Hz)(n:Nat):HObj→HObj→Prop
 |.cells T cs op,o=>∃cs',o= .cells T cs' op∧FzL H n cs cs'|x,o=>o=x
def FrH (H:Hz)(n:Nat):Hz→Hz→Prop
 | [],[]=>True|a::r,b::q=>FrO H n a b∧FrH H n r q|_,_=>False
section
variable {W0 : World} {F : Nat → Prop} {bs : List Nat} {H : Hz} {w : World} {n : Nat}
theorem A5g (hh:Ad W0 F bs H w):∀(az vs:_) (az':List AVal),Aa F bs H w az vs→FzL H n az az'→Aa F (bs.take n) (H.take n) w az' vs∧az'.length=az.length
 | [],_,[],hr,_=>⟨by grind[Aa],rfl⟩|a::r,_,b::q,hr,h=>by simp only[Aa]at hr⊢;obtain⟨v,l,rfl,h1,h2⟩:=hr;obtain⟨h3,h4⟩:=A5g hh r l q h2 h.2;exact⟨⟨v,l,Z,A3x hh h1 h.1,h3⟩,by simp[h4]⟩
 | [],_,_::_,_,h=>h.elim|_::_,_,[],_,h=>h.elim
theorem FrH.get {H:Hz}{n:Nat}:∀{A B:Hz},FrH H n A B→B.length=A.length∧∀(i:Nat) (o:HObj),B[i]?=some o→∃o2,A[i]?=some o2∧FrO H n o2 o
 | [],[],_=>⟨rfl,λi o h=>by simp at h⟩|a::r,b::q,h=>by obtain⟨h1,h2⟩:=FrH.get h.2;refine⟨by simp[h1],λi o ho=>?_⟩;cases i with|zero=>simp only[List.getElem?_cons_zero,iS]at ho;subst ho;exact⟨a,rfl,h.1⟩|succ i=>exact h2 i o bY76
 | [],_::_,h=>h.elim|_::_,[],h=>h.elim
theorem FzL.len {H:Hz}{n:Nat}:∀{az az':List AVal},FzL H n az az'→az'.length=az.length
 | [],[],_=>rfl|_::_,_::_,h=>by simp[FzL.len h.2]| [],_::_,h=>h.elim|_::_,[],h=>h.elim
structure Fh (m:Nat)(s1 s2:St):Prop where
 n:s1.n=s2.n
 H:∃k,m≤k∧FrH s2.H k (s2.H.take k) s1.H∧∀t v,s1.env.get t=some v→∃v2,s2.env.get t=some v2∧FzV s2.H k v2 v
theorem RS.fh {s1 s2:St}{a:Act}(hs:RS W0 F bs s2 a w){m:Nat}(hf:Fh m s1 s2){bs0:List Nat}{H0:Hz}{w0:World}(he:Ext bs0 H0 w0 bs s2.H w)(hm:H0.length=m):
 ∃bs',RS W0 F bs' s1 a w∧Ext bs0 H0 w0 bs' s1.H w:=by
 obtain⟨hn,k,hmk,hH,henv⟩:=hf;obtain⟨hl,hg⟩:=hH.get;have hx:Ext (bs.take k) (s2.H.take k) w (bs.take k) s1.H w:=by
  refine⟨Nat.le_refl _,λ_ _ _=>Z,λ_ h=>.inl h,λi o ho=>?_⟩;have hi:i<s1.H.length:=by grind
  obtain⟨o2,h1,h2⟩:=hg i _<|gGe hi;rw[ho]at h1;injection h1 with h1;subst h1;refine⟨_,gGe hi,?_⟩;cases o with|dead=>exact h2|iter s p=>exact .inr ⟨s,p,h2,rfl⟩|mp es=>exact .inr ⟨es,h2,rfl⟩|cells T cs op=>obtain⟨cs',h3,h4⟩:=h2;rw[h3];cases op with|false=>exact .inr ⟨T,cs',rfl,h4.len,rfl⟩|true=>exact .inr ⟨T,cs',rfl,.inr ⟨h4.len,rfl,λ_ _=>rfl⟩⟩
 refine⟨bs.take k,⟨⟨?_,hs.heap.base,λb hb=>hs.heap.low b<|List.mem_of_mem_take hb,hs.heap.nodup.sublist<|List.take_sublist _ _,λb hF=>?_,λi o b hi hb=>?_⟩,by rw[hs.size,hn],λt v hv=>?_⟩,(he.takeN Y).trans hx⟩;·rw[hl,List.length_take,List.length_take,hs.heap.len]
 ·obtain⟨h1,h2,h3⟩:=hs.heap.forb b hF;grind
 ·obtain⟨o2,h1,h2⟩:=hg i o hi;have hik:i<k:=by grind
  rw[List.getElem?_take_of_lt hik]at h1 hb;have ho:=hs.heap.obj i o2 b h1 hb;cases o2 with
  |dead=>rw[h2];trivial|iter s p=>rw[h2];exact ho|mp es=>rw[h2];exact ho
  |cells T cs op=>
   obtain⟨cs',h3,h4⟩:=h2;rw[h3];cases op with
   |false=>obtain⟨vs,rest,fr,q1,q2,q3⟩:=ho;exact⟨vs,rest,fr,q1,Aa.ext hx _ _ (A5g hs.heap _ _ _ q2 h4).1,q3⟩
   |true=>obtain⟨vs,rest,fr,q1,q2,q3⟩:=ho;exact⟨vs,rest,fr,q1,Aa.ext hx _ _ (A5g hs.heap _ _ _ q2 h4).1,q3⟩
 ·obtain⟨v2,h1,h2⟩:=henv t v hv;exact Rep.ext hx _ _<|A3x hs.heap (hs.env t v2 h1) h2
end
section
variable {P : Program} {W0 : World} {G : List (Nat × AVal)} {m : Nat}
theorem ExM.fh {a:ACode}{s1 s2:St}{K:Ai→St→Prop}(hf:Fh m s1 s2)(h:ExM P W0 m a s1 K):ExM P W0 m a s2 K:=λc hc F bs x w hs bs0 H0 w0 hm he Q hq=>by obtain⟨bs',h1,h2⟩:=hs.fh hf he hm;exact h c hc F bs' x w h1 bs0 H0 w0 hm h2 Q hq
end
def hoK {σ τ:Type}(m:Nat)(st:σ→St)(I:σ→Prop)(μ:σ→Nat)(i:σ)(id:Nat)(po:τ→St)(J:τ→Prop)(K:Ai→St→Prop)(e:Ai)(s:St):Prop:=e.then s (λs'=>∃j,I j∧μ j<μ i∧Fh m (st j) s') λe s'=>(e= .exit id∧∃j,J j∧Fh m (po j) s')∨(e≠ .exit id∧K e s')
section
variable {m : Nat} {σ τ : Type} {st : σ → St} {I : σ → Prop} {μ : σ → Nat} {i : σ} {id : Nat} {po : τ → St} {J : τ → Prop} {K : Ai → St → Prop} {s : St}
theorem hoN (j:σ)(hI:I j)(hm:μ j<μ i)(hf:Fh m (st j) s):hoK m st I μ i id po J K .normal s:=⟨j,hI,hm,hf⟩
theorem hoE (j:τ)(hJ:J j)(hf:Fh m (po j) s):hoK m st I μ i id po J K (.exit id) s:=.inl ⟨Z,j,hJ,hf⟩
end
theorem ExM.lpH {P:Program}{W0:World}{m:Nat}{c y:ACode}{σ τ:Type}(st:σ→St)(I:σ→Prop)(μ:σ→Nat)(i:σ){id:Nat}(po:τ→St)(J:τ→Prop){s:St}{K:Ai→St→Prop}(h0:Fh m (st i) s)(hI:I i)
 (round:∀i,I i→ExM P W0 m c (st i) (hoK m st I μ i id po J K)) (rest:∀j,J j→ExM P W0 m y (po j) K):ExM P W0 m (.loop c) s (iK id<|sK P W0 m y K):=λk hk=>by
 obtain⟨k',rfl,hk'⟩:=G8 hk;intro F bs a w hs bs0 H0 w0 hm he Q hq;refine Ew (σ:=σ) (λi a' w'=>∃bs',I i∧RS W0 F bs' (st i) a' w'∧Ext bs0 H0 w0 bs' (st i).H w'∧a'.defers=a.defers) μ (s:=i) ?_ ?_;·obtain⟨bs',h1,h2⟩:=hs.fh h0 he hm;grind
 ·rintro i a1 w1 ⟨bs1,hi,hrs1,hext1,hd1⟩;refine round i hi k' hk' F bs1 a1 w1 hrs1 bs0 H0 w0 hm hext1 _ λe s' bs' a' w' hkk hrs hext hd=>?_;cases e with
  |normal=>obtain⟨j,hj,hlt,hw⟩:=hkk;obtain⟨bs2,h1,h2⟩:=hrs.fh hw hext hm;exact⟨j,⟨bs2,hj,h1,h2,hd.trans hd1⟩,hlt⟩
  |ret=>
   rcases hkk with⟨he,_⟩|h;·cases he
   ·exact hq .ret s' bs' a' w' h.2 hrs hext<|hd.trans hd1
  |exit q=>
   refine hq (.exit q) s' bs' a' w' ?_ hrs hext<|hd.trans hd1;show(bif Nat.beq q id then ExM P W0 m y s' K else K (.exit q) s');rcases hkk with⟨he,j,hj,hf⟩|h;·grind[Nat.beq_refl,ExM.fh]
   ·simp_all
theorem Bw {m:Nat}{l:List (Nat×AVal)}{H:Hz}{n:Nat}{s:St}(k:Nat)(hH:FrH s.H k (s.H.take k) H)(h:Kp s.H k s.env l)(hn:n=s.n:=by rfl)(hm:m≤k:=by first|exact Nat.zero_le _|decide):Fh m ⟨.al l,H,n⟩ s:=by refine⟨hn,k,hm,hH,λt v hv=>Vx h (t,v)<|A1e hv⟩
def jH (m:Nat)(c:St)(K:Ai→St→Prop)(e:Ai)(s:St):Prop:=e.then s (λs'=>Fh m c s') K
theorem jHn {m:Nat}{c:St}{K:Ai→St→Prop}{s:St}(h:Fh m c s):jH m c K .normal s:=h
theorem ExM.jn {P:Program}{W0:World}{m:Nat}{x y:ACode}(c:St){s:St}{K:Ai→St→Prop}(h1:ExM P W0 m x s<|jH m c K)(h2:ExM P W0 m y c K):ExM P W0 m x s (sK P W0 m y K):=h1.mono λe s' h=>by cases e with|normal=>exact ExM.fh h h2|ret=>exact h|exit k=>exact h
theorem frC {H:Hz}{n:Nat}{a b:HObj}{r q:Hz}(h:FrO H n a b)(k:FrH H n r q):FrH H n (a::r) (b::q):=⟨h,k⟩
theorem frN {H:Hz}{n:Nat}:FrH H n [] []:=O
theorem frO {H:Hz}{n T:Nat}{cs cs':List AVal}{op:Bool}(h:FzL H n cs cs'):FrO H n (.cells T cs op) (.cells T cs' op):=⟨cs',Z,h⟩
theorem flC {H:Hz}{n:Nat}{a b:AVal}{r q:List AVal}(h:FzV H n a b)(k:FzL H n r q):FzL H n (a::r) (b::q):=⟨h,k⟩
theorem flN {H:Hz}{n:Nat}:FzL H n [] []:=O
structure Ord (P:Program)(ops:Array Oper)(n:Nat)(mk:Nat→Nat→Bool):Prop where
 back:∀(j:Nat) (o:Oper),ops[j]?=some o→∀e∈o.after,Region.binds .any e=true→e.on<j
 mask:∀(j:Nat) (o:Oper) (i:Nat),ops[j]?=some o→mk j i=true→∃e∈o.after,Region.binds .any e=true∧(e.on=i∨mk e.on i=true)
 uniq:∀(i j:Nat) (oi oj:Oper) (t:Nat),ops[i]?=some oi→ops[j]?=some oj→oi.dst=some t→oj.dst=some t→i=j
 rd:∀(j:Nat) (oj:Oper) (t:Nat),ops[j]?=some oj→t∈Abs.reads P ops oj→∀(i:Nat) (oi:Oper),ops[i]?=some oi→oi.dst=some t→mk j i=true∨mk i j=true
 dst:∀(j:Nat) (o:Oper),ops[j]?=some o→Eq o.dst n=true
def I4 (ops:Array Oper)(e0:Env)(vs:Nat→AVal):Nat→Env
 |0=>e0
 |k+1=>match ops[k]? with
  |some o=>G3 o.dst (vs k) (I4 ops e0 vs k)|none=>I4 ops e0 vs k
def Nv (ops:Array Oper)(vs:Nat→AVal)(e0:Env)(done:Nat→Prop)(e:Env):Prop:=∀t,(∃(i:Nat) (o:Oper),ops[i]?=some o∧done i∧o.dst=some t∧e.get t=some (vs i))∨((∀(i:Nat) (o:Oper),ops[i]?=some o→o.dst=some t→¬done i)∧e.get t=e0.get t)
section
variable {P : Program} {ops : Array Oper} {n : Nat} {mask : Nat → Nat → Bool} {e0 : Env} {vs us : Nat → AVal}
theorem Nv.step (hp:Ord P ops n mask){done done':Nat→Prop}{e:Env}(h:Nv ops vs e0 done e){j:Nat}{o:Oper}(hj:ops[j]?=some o)(hd:∀i,done' i↔done i∨i=j):
 Nv ops vs e0 done' (G3 o.dst (vs j) e):=by
 have hdo:=hp.dst j o hj;intro t;cases ho:o.dst with
 |none=>
  simp only[G3];rcases h t with⟨i,oi,h1,h2,h3,h4⟩|⟨h1,h2⟩;·grind
  ·grind
 |some d=>
  rw[ho]at hdo
  have hlt:d<n∧d<4094:=by grind[Eq,Nat.blt_eq]
  simp only[G3];rw[Env.get_put 12 d (vs j) e t<|Nat.add_le_add_right (Nat.le_of_lt hlt.2) 2];by_cases htd:t=d;·grind
  ·rw[if_neg htd];rcases h t with⟨i,oi,h1,h2,h3,h4⟩|⟨h1,h2⟩<;>grind
theorem Nv.seq (hp:Ord P ops n mask):∀j,j≤ops.size→Nv ops vs e0 (λi=>i<j) (I4 ops e0 vs j)
 |0,_=>λt=>.inr ⟨λi o _ _ h=>absurd h<|Nat.not_lt_zero i,rfl⟩|j+1,hj=>by have ho:ops[j]?=some (ops[j]'(Y)):=Array.getElem?_eq_getElem Y;have:=(Nv.seq hp j Y).step hp ho (done':=λi=>i<j+1) (λi=>by constructor<;>intro h<;>omega);simp only[I4,ho];exact this
theorem Nv.agree (hp:Ord P ops n mask){d1 d2:Nat→Prop}{e1 e2:Env}(h1:Nv ops vs e0 d1 e1)(h2:Nv ops us e0 d2 e2){t:Nat}(h:∀(i:Nat) (o:Oper),ops[i]?=some o→o.dst=some t→(d1 i↔d2 i)∧(d1 i→vs i=us i)):e1.get t=e2.get t:=by
 rcases h1 t with⟨i,o,a1,a2,a3,a4⟩|⟨a1,a2⟩
 ·rcases h2 t with⟨k,ok,b1,b2,b3,b4⟩|⟨b1,b2⟩;·have:=hp.uniq i k o ok t a1 b1 a3 b3;grind
  grind
 ·rcases h2 t with⟨k,ok,b1,b2,b3,b4⟩|⟨b1,b2⟩<;>grind
theorem Ord.lt (hp:Ord P ops n mask):∀{j i:Nat}{o:Oper},ops[j]?=some o→mask j i=true→i<j:=by
 intro j;induction j using Nat.strongRecOn with
 |_ x ihx=>
  intro y ox hox hm;obtain⟨ed,hed,hb,h⟩:=hp.mask x ox y hox hm;have hlt:=hp.back x ox hox ed hed hb;rcases h with rfl|h;·exact hlt
  ·grind
theorem Ord.down (hp:Ord P ops n mask){listed:Array Bool}(hsz:listed.size=ops.size)
 (down:∀(j:Nat) (o:Oper),ops[j]?=some o→listed.getD j true=true→∀e∈o.after,Region.binds .any e=true→listed.getD e.on false=true):
 ∀(j:Nat) (o:Oper),ops[j]?=some o→(∀e∈o.after,Region.binds .any e=true→listed.getD e.on false=true)→∀i,mask j i=true→listed.getD i true=true:=by
 intro j;induction j using Nat.strongRecOn with
 |_ j ih=>
  intro o ho hpre i hm;obtain⟨e,he,hb,h⟩:=hp.mask j o i ho hm;have hlt:=hp.back j o ho e he hb;have hl:=hpre e he hb;have hj:=(Array.getElem?_eq_some_iff.1 ho).1;have hon:e.on<listed.size:=Y;have hl':listed.getD e.on true=true:=by grind
  rcases h with rfl|h;·exact hl'
  ·grind
theorem Ord.all (hp:Ord P ops n mask){listed:Array Bool}(hsz:listed.size=ops.size)(hr:Region.ready .any ops listed=[]):∀j,j<ops.size→listed.getD j true=true:=by
 intro j;induction j using Nat.strongRecOn with
 |_ j ih=>
  intro hj;cases hl:listed.getD j true with
  |true=>rfl
  |false=>
   have ho:ops[j]?=some (ops[j]'hj):=Array.getElem?_eq_getElem hj
   have:j∈Region.ready .any ops listed:=mem_ready.2 ⟨hl,_,ho,λe he hb=>by
    have hlt:=hp.back j _ ho e he hb
    grind⟩
   rw[hr]at this;cases this
theorem X1 :∀(k:Nat),(∀i,i<k→vs i=us i)→I4 ops e0 vs k=I4 ops e0 us k
 |0,_=>rfl|k+1,h=>by simp only[I4,X1 k<|λi hi=>h i Y,h k Y]
def Y4 (ops:Array Oper)(e0:Env)(R:Nat→Env→AVal→Prop)(vs:Nat→AVal)(m:Nat):Prop:=∀i,i<m→R i (I4 ops e0 vs i) (vs i)
theorem A0r {R:Nat→Env→AVal→Prop}{M:Nat}(hex:∀vs k,k<M→Y4 ops e0 R vs k→∃v,R k (I4 ops e0 vs k) v)(D:Nat→Prop)(u:Nat→AVal)
 (hD:∀vs i,i<M→D i→Y4 ops e0 R vs i→(∀k,k<i→D k→vs k=u k)→R i (I4 ops e0 vs i) (u i)):∀m,m≤M→∃vs,Y4 ops e0 R vs m∧∀i,i<m→D i→vs i=u i
 |0,_=>⟨λ_=>.nilIf,λi hi=>absurd hi<|Nat.not_lt_zero i,λi hi=>absurd hi<|Nat.not_lt_zero i⟩
 |m+1,hm=>by
  obtain⟨vs,h1,h2⟩:=A0r hex D u hD m Y;have key:∀x,R m (I4 ops e0 vs m) x→(D m→x=u m)→∃vs,Y4 ops e0 R vs (m+1)∧∀i,i<m+1→D i→vs i=u i:=by
   intro x hx hu;have hs:∀i,i<m→(λi=>if i=m then x else vs i) i=vs i:=λi hi=>if_neg Y;refine⟨λi=>if i=m then x else vs i,λi hi=>?_,λi hi hd=>?_⟩
   ·have he:I4 ops e0 (λi=>if i=m then x else vs i) i=I4 ops e0 vs i:=X1 i λk hk=>hs k Y;rw[he];by_cases him:i=m;·grind
    ·simpa[him]using h1 i Y
   grind
  by_cases hd:D m;all_goals grind
end
def OpGo (P:Program)(ops:Array Oper)(o:Oper)(a:Act)(w:World)(next:Act→World→Prop)(Q:Exit→Act→World→Prop):Prop:=if Region.wanted o (yielded ops a.tmps)then o.wp P a w next Q∨(o.asks P a w∧LetsOut Q)else next (a.put o.dst undef) w
def lbOf (ja:Option Nat)(listed:Array Bool):Bool:=match ja with
 |none=>false|some j=>listed.getD j true
section
variable {P : Program} {W0 : World} {ops : Array Oper} {mask : Nat → Nat → Bool} {F : Nat → Prop}
structure InvR (P:Program)(W0:World)(ops:Array Oper)(s:St)(M:Nat)(R:Nat→Env→AVal→Prop)(HB:Bool→Hz)(ja:Option Nat)(F:Nat→Prop)(bs:List Nat)(a0:Act)(w0:World)(listed:Array Bool)(a:Act)(w:World):Prop where
 size:listed.size=ops.size
 down:∀(j:Nat) (o:Oper),ops[j]?=some o→listed.getD j true=true→∀e∈o.after,Region.binds .any e=true→listed.getD e.on false=true
 last:listed.getD M true=false
 go:∃(vs:Nat→AVal) (e:Env) (bs':List Nat),Y4 ops s.env R vs M∧RS W0 F bs' ⟨e,HB<|lbOf ja listed,s.n⟩ a w∧Ext bs s.H w0 bs' (HB<|lbOf ja listed) w∧a.defers=a0.defers∧Nv ops vs s.env (λi=>listed.getD i true=true) e
theorem A7m {s:St}{M:Nat}(hM:ops.size=M+1)(hp:Ord P ops s.n mask)(hlm:∀i,i<M→mask M i=true){R:Nat→Env→AVal→Prop}{HB:Bool→Hz}{ja:Option Nat}(hja:∀j,ja=some j→j<M){K:St→Prop}
 (hR:∀(j:Nat) (o:Oper) (e e':Env) (v:AVal),ops[j]?=some o→(∀t∈reads P ops o,e.get t=e'.get t)→R j e v→R j e' v)
 (hex:∀vs k,k<M→Y4 ops s.env R vs k→∃v,R k (I4 ops s.env vs k) v)
 (hrun:∀vs j o,j<M→ops[j]?=some o→Y4 ops s.env R vs j→∀(b:Bool) (e':Env) (bs:List Nat) (a:Act) (w:World) (next:Act→World→Prop) (Q:Exit→Act→World→Prop),(ja=some j→b=false)→(∀t∈reads P ops o,(I4 ops s.env vs j).get t=e'.get t)→RS W0 F bs ⟨e',HB b,s.n⟩ a w→
  (∀v bs' a' w',R j (I4 ops s.env vs j) v→RS W0 F bs' ⟨G3 o.dst v e',HB (decide (ja=some j)||b),s.n⟩ a' w'→Ext bs (HB b) w bs' (HB (decide (ja=some j)||b)) w'→a'.defers=a.defers→next a' w')→OpGo P ops o a w next Q)
 (hfin:∀vs o,ops[M]?=some o→Y4 ops s.env R vs M→∀(e':Env) (bs:List Nat) (a:Act) (w:World) (next:Act→World→Prop) (Q:Exit→Act→World→Prop),(∀t,(I4 ops s.env vs M).get t=e'.get t)→RS W0 F bs ⟨e',HB ja.isSome,s.n⟩ a w→
  (∀s' bs' a' w',K s'→RS W0 F bs' s' a' w'→Ext bs (HB ja.isSome) w bs' s'.H w'→a'.defers=a.defers→next a' w')→OpGo P ops o a w next Q)
 {bs:List Nat}{a0:Act}{w0:World}{Q:Exit→Act→World→Prop}
 (hQ:∀s' bs' a w,K s'→RS W0 F bs' s' a w→Ext bs s.H w0 bs' s'.H w→a.defers=a0.defers→Q .normal a w):
 ∀(fuel:Nat) (listed:Array Bool) (a:Act) (w:World),InvR P W0 ops s M R HB ja F bs a0 w0 listed a w→(unl ops.size listed).length≤fuel→wpAny P .any ops Q fuel listed a w:=by
 have nofin:∀(listed:Array Bool) (a:Act) (w:World),InvR P W0 ops s M R HB ja F bs a0 w0 listed a w→Region.ready .any ops listed≠[]:=λlisted a w hi hr=>by have:=hp.all hi.size hr M Y;rw[hi.last]at this;cases this
 intro fuel;induction fuel with
 |zero=>
  intro listed a w hi hu;exfalso;have:M∈unl ops.size listed:=by unfold unl;rw[List.mem_filter,List.mem_range];exact⟨Y,by rw[hi.last];rfl⟩
  rw[List.length_eq_zero_iff.1<|Nat.le_zero.1 hu]at this;cases this
 |succ fuel ih=>
  intro listed a w hi hu;refine⟨λhr=>absurd hr<|nofin listed a w hi,λj hj=>?_⟩;obtain⟨hjl,o,ho,hpre⟩:=mem_ready.1 hj;have hjs:j<ops.size:=(Array.getElem?_eq_some_iff.1 ho).1;obtain⟨vs,e,bs',h0,h1,h2,h3,h6⟩:=hi.go;have hmj:=hp.down hi.size hi.down j o ho hpre;have hdn:∀i o,ops[i]?=some o→listed.getD i true=true→∀k,mask i k=true→listed.getD k true=true:=λi o hio hl k hm=>hp.down hi.size hi.down i o hio (λe he hb=>hi.down i o hio hl e he hb) k hm;have hnot:∀i,i<ops.size→mask i j=true→listed.getD i true=false:=by grind
  have hset:∀i,i≠j→(listed.setIfInBounds j true).getD i true=listed.getD i true:=λi hij=>getD_set_ne true<|Ne.symm hij;have hsetj:(listed.setIfInBounds j true).getD j true=true:=by simp[Array.getD_eq_getD_getElem?,Array.getElem?_setIfInBounds_self_of_lt (show j<listed.size by grind)]
  have hrd:∀t∈reads P ops o,(I4 ops s.env vs j).get t=e.get t:=by
   intro t ht;refine Nv.agree hp (Nv.seq hp j<|Nat.le_of_lt hjs) h6 λi oi hio hti=>⟨?_,λ_=>Z⟩;have his:i<ops.size:=(Array.getElem?_eq_some_iff.1 hio).1;rcases hp.rd j o t ho ht i oi hio hti with hm|hm;·exact⟨λ_=>hmj i hm,λ_=>hp.lt ho hm⟩
   ·have:=hnot i his hm;have hlt:=hp.lt hio hm;grind
  unfold wpOp;rw[ho];simp only;by_cases hjM:j=M
  ·subst hjM;have hall:∀i,i<j→listed.getD i true=true:=λi hi'=>hmj i<|hlm i hi';have hlb:lbOf ja listed=ja.isSome:=by cases hja':ja with|none=>rfl|some q=>exact hall q (hja q hja')
   rw[hlb]at h1 h2;refine hfin vs o ho h0 e bs' a w _ Q (λt=>?_) h1 λs' bs'' a' w' hk hrs hext hdf=>?_;·refine Nv.agree hp (Nv.seq hp j<|Nat.le_of_lt hjs) h6 λi oi hio _=>⟨?_,λ_=>Z⟩;grind
   ·have hq:Q .normal a' w':=hQ s' bs'' a' w' hk hrs (h2.trans hext)<|hdf.trans h3;have hnil:Region.ready .any ops (listed.setIfInBounds j true)=[]:=by
     cases hr:Region.ready .any ops (listed.setIfInBounds j true)with
     |nil=>rfl
     |cons q r=>
      have hq':q∈Region.ready .any ops (listed.setIfInBounds j true):=by grind
      obtain⟨g1,oq,g2,_⟩:=mem_ready.1 hq';have hqs:=(Array.getElem?_eq_some_iff.1 g2).1;by_cases hqj:q=j;·grind
      ·grind
    cases fuel with|zero=>exact⟨hnil,hq⟩|succ f=>exact⟨λ_=>hq,λi hi'=>by grind⟩
  ·have hjm:j<M:=by omega
   have hb0:ja=some j→lbOf ja listed=false:=λh=>by rw[h];exact hjl
   refine hrun vs j o hjm ho (λi hi'=>h0 i Y) (lbOf ja listed) e bs' a w _ Q hb0 hrd h1 λv bs'' a' w' hv hrs hext hdf=>?_;have hlb:lbOf ja (listed.setIfInBounds j true)=(decide (ja=some j)||lbOf ja listed):=by cases hja':ja<;>grind[lbOf]
   obtain⟨us,g1,g2⟩:=A0r (R:=R) (M:=M) hex (λi=>listed.getD i true=true∧i<ops.size∨i=j) (λi=>if i=j then v else vs i) (λxs i hiM hD hx hag=>by
    have hsame:∀(oi:Oper),ops[i]?=some oi→∀t∈reads P ops oi,(I4 ops s.env vs i).get t=(I4 ops s.env xs i).get t:=by
     intro oi hoi t ht;refine Nv.agree hp (Nv.seq hp i Y) (Nv.seq hp i Y) λk ok hk hkt=>⟨Iff.rfl,λhki=>?_⟩;have hks:k<ops.size:=(Array.getElem?_eq_some_iff.1 hk).1;rcases hp.rd i oi t hoi ht k ok hk hkt with hm|hm;·grind
     ·have:=hp.lt hk hm;omega
    have his:i<ops.size:=Y;have hoi:ops[i]?=some (ops[i]'his):=Array.getElem?_eq_getElem his;by_cases hij:i=j;·grind
    ·rw[if_neg hij]
     exact hR i _ _ _ _ hoi (hsame _ hoi) (h0 i hiM)) M (Nat.le_refl _)
   refine ih (listed.setIfInBounds j true) a' w' ⟨by simp[hi.size],λk ok hk hkl ed hed hb=>?_,by grind,us,_,bs'',g1,by rw[hlb];exact hrs,by rw[hlb];exact h2.trans hext,hdf.trans h3,?_⟩ ?_
   ·by_cases hkj:k=j;·grind
    ·rw[getD_set_ne true<|Ne.symm hkj]at hkl;exact getD_set_true<|hi.down k ok hk hkl ed hed hb
   ·have huj:us j=v:=by grind
    have h7:Nv ops us s.env (λi=>listed.getD i true=true) e:=by intro t;rcases h6 t with⟨i,oi,q1,q2,q3,q4⟩|q;all_goals grind
    have:=h7.step hp ho (done':=λi=>(listed.setIfInBounds j true).getD i true=true) λi=>by grind
    grind
   ·have:=A7d hjs hi.size.symm hjl;omega
end
end Go.Abs
