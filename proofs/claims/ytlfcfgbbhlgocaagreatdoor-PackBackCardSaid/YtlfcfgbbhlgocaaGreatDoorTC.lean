/- A part of the proof that tabula/tabulalaw25.PackBack returns true for every input, each argument reading as it did (its card: the last text). No conditions of its own. -/
import Derived.Test.YtlfcfgbbhlgocaaGreatDoorTB
import Derived.Lib.TrimAscii
set_option linter.unusedVariables false
set_option linter.unusedSimpArgs false
open List renaming length->N
open Array renaming getElem?_eq_some_iff->dZ,replicate->fE
open Bool renaming not_eq_true'->fD,or_eq_true->eI
open Classical renaming byContradiction->fA
open Go.Abs.Aj renaming inBlock->fJ
open Go.Abs.Ext renaming refl->eA
open Go.Abs.SP renaming nxt->eR
open Go.Calls renaming mono->eU
open Go.IntKind renaming i64->fL
open Go.Region renaming binds->eC
open List renaming all_eq_true->eB,mem_cons->eS,getElem?_cons_succ->eT,getElem?_cons_zero->eV,length_eq_zero_iff->eW,getElem?_of_mem->eX,not_mem_nil->eY,getD_eq_getElem?_getD->eZ,getElem?_eq_some_iff->aC,mem_range->fC,getElem?_set_ne->bY,mem_cons_of_mem->fF,replicate->fH,range'_succ->fK,drop_drop->fM,length_replicate->fN,mem_of_mem_take->dA,mem_append->eG,range->eD
open Nat renaming blt->bB,beq->aA,le_of_ble_eq_true->aO,mul_le_mul_right->aS,ne_of_beq_eq_false->aL,eq_of_beq_eq_true->cV,pow_le_pow_right->fG,strongRecOn->eF,le_refl->bC,mul_comm->fO,zero_add->bS,add_zero->aZ
open Option renaming bind_some->fP
namespace Go.Abs
open Go.RowKit
inductive RV where
 |tmp (t:Nat)|cell (t n:Nat) (agg:Bool)
def SU (P:Program):ResultVar→Option RV
 |.tmp t=>some<|.tmp t
 |.cell a t=>match Po P t with
  |some (n,agg)=>some (.cell a n agg)|none=>none
def Q5 (P:Program):List ResultVar→Option (List RV)
 | []=>some []
 |r::rs=>match SU P r with
  |some x=>match Q5 P rs with
   |some l=>some (x::l)|none=>none
  |none=>none
def JX (s:St):RV→Option AVal
 |.tmp t=>s.env.get t
 |.cell a n agg=>match s.env.get a with
  |some p=>Jf n agg s.H p|none=>none
def If (s:St):List RV→Option (List AVal)
 | []=>some []
 |r::rs=>match JX s r with
  |some v=>match If s rs with
   |some vs=>some (v::vs)|none=>none
  |none=>none
theorem Lo {P:Program}{s:St}:∀{rs:List ResultVar}{l:List RV}{vs:List AVal},Q5 P rs=some l→If s l=some vs→Dk P s rs=some vs
 | [],l,vs,hc,h=>by simp only[Q5,iS]at hc;subst hc;exact h
 |r::rs,l,vs,hc,h=>by
  simp only[Q5]at hc;split at hc
  ·rename_i x hx;split at hc
   ·rename_i l' hl;injection hc with hc;subst hc;simp only[If]at h;split at h
    ·rename_i v hv;split at h
     ·rename_i vs' hvs;injection h with h;subst h;have hr:Ry P s r=some v:=by cases r<;>grind[SU,JX,Ry]
      simp only[Dk,hr,Lo hl hvs]
     ·cases h
    ·cases h
   ·cases hc
  ·cases hc
structure AFn where
 code:ACode
 res:List RV
 n:Nat
def Gs (P:Program)(f:Nat):Option AFn:=
 match P.funcs[f]? with
 |some fn=>match fn.body with
  |some c=>match Bo P c with
   |some a=>match Q5 P fn.results.toList with
    |some l=>cond (fn.name== "runtime.NumGoroutine") none (some ⟨a,l,fn.ntmps⟩)|none=>none
   |none=>none
  |none=>none
 |none=>none
theorem Kt {P:Program}{f:Nat}{x:AFn}(h:Gs P f=some x):∃fn c,P.funcs[f]?=some fn∧fn.body=some c∧Bo P c=some x.code∧Q5 P fn.results.toList=some x.res∧fn.name≠ "runtime.NumGoroutine" ∧fn.ntmps=x.n:=by unfold Gs at h;grind
def Ec :Nat→List AVal→List (Nat×AVal)
 |_,[]=>[]|i,v::r=>(i,v)::Ec (i+1) r
theorem I5 :∀(az:List AVal) (i t:Nat),lk t (Ec i az)=if i≤t∧t<i+N az then az[t-i]? else none
 | [],i,t=>by simp_all[Ec,lk]
 |v::r,i,t=>by
  simp only[Ec,lk,lCo];cases h:aA t i with
  |true=>have:=nBq h;subst this;rw[cond_true,if_pos Y];simp
  |false=>
   have:=aL h;rw[cond_false,I5 r (i+1) t];by_cases h2:i+1≤t∧t<i+1+N r;·grind
   ·grind
def PT (n:Nat)(x:AVal)(Hx:Hz)(v:AVal)(H':Hz):Prop:=(x=v∧Hx=H')∨(B7 n (Hx.take n)=true∧(∃m,frz Hx n m x=some v)∧Hx.take n=H')
theorem Js {W0:World}{F:Nat→Prop}{bs:List Nat}{H:Hz}{w:World}(hh:Ae W0 F bs H w){bs0:List Nat}{H0:Hz}{w0:World}(he:Ext bs0 H0 w0 bs H w){x v:AVal}{H':Hz}{cv:Value}(hv:Rep F bs H w x cv)
 (hl:PT (N H0) x H v H'):∃bs',Rep F bs' H' w v cv∧Ae W0 F bs' H' w∧Ext bs0 H0 w0 bs' H' w:=by
 rcases hl with⟨rfl,rfl⟩|⟨h1,⟨m,h2⟩,rfl⟩;·grind
 ·exact⟨bs.take<|N H0,Ui hh m x cv v hv h2,hh.take h1,he.take⟩
def Ja (rs:List RV)(n:Nat)(v:AVal)(H':Hz)(e:Aj)(s:St):Prop:=(match e with|.exit _=>False|_=>True)∧∃vs,If s rs=some vs∧PT n (Cb vs) s.H v H'
theorem A5.of_fn {P:Program}{W0:World}{f:Nat}{x:AFn}(hf:Gs P f=some x){args:List AVal}{H:Hz}{v:AVal}{H':Hz}(hl:N args≤4094){n:Nat}(hn:N args+(x.n-N args)=n)
 (h:ExA P W0 x.code ⟨.al<|Ec 0 args,H,n⟩<|Ja x.res (N H) v H'):A5 P W0 f args H v H':=by
 obtain⟨fn,c,h1,h2,h3,h4,h5,h6⟩:=Kt hf;refine⟨⟨fn,c,h1,h2,h5⟩,λF bs w cargs hh hr=>?_⟩;have hrs:=F8 hh hr hl fn.ntmps;have hrs':RS W0 F bs ⟨.al<|Ec 0 args,H,n⟩ {tmps:=cargs.toArray++fE (fn.ntmps-cargs.toArray.size) undef,defers:=[]} w:=
  ⟨hrs.heap,EQ,λt u hu=>hrs.env t u (by
   rw[Df args 0 .leaf t Y];have hu:lk t (Ec 0 args)=some u:=hu;rw[I5]at hu
   grind)⟩
 refine calls_of_wp h1 h2<|h c h3 F bs _ w hrs' _ λe s' bs' a' w' hk hrs hext hd=>?_;obtain⟨hne,vs,hvs,hlv⟩:=hk;obtain⟨cv,r1,r2⟩:=Es hrs<|Lo h4 hvs;obtain⟨bs'',r3,r4,r5⟩:=Js hrs.heap hext r2 hlv;have fin:bodyPost P fn (λe w'=>∃cv bs',e= .returned cv∧Rep F bs' H' w' v cv∧Ae W0 F bs' H' w'∧Ext bs H w bs' H' w') .ret a' w':=⟨hd,cv,r1,cv,bs'',rfl,r3,r4,r5⟩;cases e with|normal=>exact fin|ret=>exact fin|exit id=>exact hne.elim
section
variable {P : Program} {W0 : World} {G : List (Nat × AVal)} {s : St} {K : St → Prop} {r : List AOper}
theorem sGuard {dst:Option Nat}{op:AOp}{t:Nat}{want b:Bool}(h:s.env.get t=some (.bool b))(k1:b=want→Az P W0 G (⟨dst,none,op⟩::r) s K)(k2:b=(!want)→Az P W0 G (⟨dst,none,.move<|.val<|.tup []⟩::r) s K):
 Az P W0 G (⟨dst,some (t,want),op⟩::r) s K:=by
 grind[Az,Hj,aop,ev,M5,Ic]
theorem PD {dst:Option Nat}{op:AOp}{t:Nat}{want:Bool}(h:s.env.get t=some (.tup []))(k2:Az P W0 G (⟨dst,none,.move<|.val<|.tup []⟩::r) s K):
 Az P W0 G (⟨dst,some (t,want),op⟩::r) s K:=by
 grind[Az,Hj,aop,ev,M5,Ic]
end
section
variable {P : Program} {W0 : World} {G : List (Nat × AVal)}
structure Wk (m:Nat)(s1 s2:St):Prop where
 n:s1.n=s2.n
 lo:m≤N s1.H
 hi:s2.H.take (N s1.H)=s1.H
 env:∀t v,s1.env.get t=some v→s2.env.get t=some v
 clo:N s1.H=N s2.H∨(B7 (N s1.H) s1.H=true∧∀t v,s1.env.get t=some v→blw (N s1.H) v=true)
theorem Ext.takeN {bs0:List Nat}{H0:Hz}{w0:World}{bs:List Nat}{H:Hz}{w:World}(h:Ext bs0 H0 w0 bs H w){n:Nat}(hn:N H0≤n):Ext bs0 H0 w0 (bs.take n) (H.take n) w:=by refine⟨h.size,h.block,λk hk=>h.new k<|dA hk,λi o ho=>?_⟩;have hi:=(aC.1 ho).1;obtain⟨o',h1,h2⟩:=h.obj i o ho;refine⟨o',by grind,?_⟩;have hbs:(bs.take n)[i]?=bs[i]?:=List.getElem?_take_of_lt Y;simp_all[Bi]
theorem RS.wk {F:Nat→Prop}{bs:List Nat}{s1 s2:St}{a:Act}{w:World}(hs:RS W0 F bs s2 a w){m:Nat}(hw:Wk m s1 s2){bs0:List Nat}{H0:Hz}{w0:World}(he:Ext bs0 H0 w0 bs s2.H w)(hm:N H0≤m):
 ∃bs',RS W0 F bs' s1 a w∧Ext bs0 H0 w0 bs' s1.H w:=by
 rcases hw.clo with hl|⟨hb1,hb2⟩
 ·have hH:s1.H=s2.H:=by rw[←hw.hi,hl,List.take_length]
  refine⟨bs,⟨hH▸hs.heap,by rw[hs.size,hw.n],λt v hv=>?_⟩,hH▸he⟩;rw[hH];exact hs.env t v<|hw.env t v hv
 ·have hh:Ae W0 F (bs.take<|N s1.H) (s2.H.take<|N s1.H) w:=hs.heap.take (by rw[hw.hi];exact hb1);have he':=he.takeN (n:=N s1.H)<|Nat.le_trans hm hw.lo;refine⟨bs.take<|N s1.H,⟨by rw[hw.hi]at hh;exact hh,by rw[hs.size,hw.n],λt v hv=>?_⟩,by rw[hw.hi]at he';exact he'⟩;have:=DD (n:=N s1.H) v _ (hs.env t v<|hw.env t v hv)<|hb2 t v hv;rw[hw.hi]at this;exact this
theorem ExA.wk {a:ACode}{s1 s2:St}{K:Aj→St→Prop}(hn:s1.n=s2.n)(hH:s1.H=s2.H)(he:∀t v,s1.env.get t=some v→s2.env.get t=some v)(h:ExA P W0 a s1 K):ExA P W0 a s2 K:=λc hc F bs x w hs Q hq=>h c hc F bs x w ⟨hH▸hs.heap,by rw[hs.size,hn],λt v hv=>by rw[hH];exact hs.env t v<|he t v hv⟩ Q λe s' bs' a' w' h1 h2 h3 h4=>hq e s' bs' a' w' h1 h2 (by grind) h4
theorem ExA.loop {c:ACode}{σ:Type}(st:σ→St)(Ix:σ→Prop)(μ:σ→Nat)(i:σ){s:St}{K:Aj→St→Prop}(h0:Wk (N s.H) (st i) s)(hI:Ix i)
 (round:∀i,Ix i→N s.H≤(st i).H.length→ExA P W0 c (st i) λe s'=>e.then s' (λs'=>∃j,Ix j∧μ j<μ i∧Wk (N s.H) (st j) s') K):ExA P W0 (.loop c) s K:=λk hk=>by
 obtain⟨k',rfl,hk'⟩:=Gl hk;intro F bs a w hs Q hq;refine Fa (σ:=σ) (λi a' w'=>∃bs',Ix i∧N s.H≤(st i).H.length∧RS W0 F bs' (st i) a' w'∧Ext bs s.H w bs' (st i).H w'∧a'.defers=a.defers) μ (s:=i) ?_ ?_;·obtain⟨bs',h1,h2⟩:=hs.wk h0 (eA bs s.H w)<|bC _;exact⟨bs',hI,h0.lo,h1,h2,Z⟩
 ·rintro i a1 w1 ⟨bs1,hi,hlen,hrs1,hext1,hd1⟩;refine round i hi hlen k' hk' F bs1 a1 w1 hrs1 _ λe s' bs' a' w' hkk hrs hext hd=>?_;cases e with
  |normal=>obtain⟨j,hj,hlt,hw⟩:=hkk;obtain⟨bs2,h1,h2⟩:=hrs.wk hw (hext1.trans hext)<|bC _;exact⟨j,⟨bs2,hj,hw.lo,h1,h2,hd.trans hd1⟩,hlt⟩
  |exit id=>exact hq (.exit id) s' bs' a' w' hkk hrs (hext1.trans hext) (hd.trans hd1)|ret=>exact hq .ret s' bs' a' w' hkk hrs (hext1.trans hext)<|hd.trans hd1
theorem HT {l:List (Nat×AVal)}{e:Env}(h:∀p∈l,e.get p.1=some p.2):∀t v,(Env.al l).get t=some v→e.get t=some v:=by
 intro t v hv;induction l with
 |nil=>cases hv
 |cons p l ih=>have hw:lk t (p::l)=some v:=hv;obtain⟨u,x⟩:=p;simp only[lk]at hw;cases hb:aA t u with|true=>rw[hb]at hw;simp only[cond_true,iS]at hw;have:=nBq hb;subst this;subst hw;exact h (t,x) B4|false=>rw[hb]at hw;exact ih (λp hp=>h p (by simp[hp])) hw
theorem al_blw {l:List (Nat×AVal)}{m:Nat}(h:A8 m (l.map (·.2))=true):∀t v,(Env.al l).get t=some v→blw m v=true:=by
 intro t v hv;induction l with
 |nil=>cases hv
 |cons p l ih=>
  have hw:lk t (p::l)=some v:=hv;obtain⟨u,x⟩:=p;simp only[List.map_cons,A8]at h;have h1:blw m x=true:=by grind
  have h2:A8 m (l.map (·.2))=true:=by grind
  simp only[lk]at hw;cases hb:aA t u with|true=>rw[hb]at hw;simp only[cond_true,iS]at hw;subst hw;exact h1|false=>rw[hb]at hw;exact ih h2 hw
theorem Wk.same {l:List (Nat×AVal)}{H:Hz}{n:Nat}{s:St}(hn:n=s.n)(hH:H=s.H)(h:∀p∈l,s.env.get p.1=some p.2):Wk (N s.H) ⟨.al l,H,n⟩ s:=⟨hn,by grind,by grind,HT h,.inl (by rw[hH])⟩
theorem Wk.cut {m:Nat}{l:List (Nat×AVal)}{H:Hz}{n:Nat}{s:St}(hn:n=s.n)(hm:m≤N H)(hH:s.H.take (N H)=H)(h:∀p∈l,s.env.get p.1=some p.2)(hb:B7 (N H) H=true)(hl:A8 (N H) (l.map (·.2))=true):Wk m ⟨.al l,H,n⟩ s:=⟨hn,hm,hH,HT h,.inr ⟨hb,al_blw hl⟩⟩
end
instance (n:Nat):OfNat RV n:=⟨.tmp n⟩
section
variable {P : Program} {W0 : World} {G : List (Nat × AVal)} {l : List (Nat × AVal)} {H H' : Hz} {n : Nat} {K : St → Prop} {r : List AOper}
theorem D7 (h:K ⟨.al l,H,n⟩):Az P W0 G [] ⟨.al l,H,n⟩ K:=h
theorem Aa {d:Nat}{op:AOp}{v:AVal}{side:List (Int×Int)}(h:aop G ⟨.al l,H,n⟩ op=some (.val v H' side))(hd:(bB d n&&bB d 4094)=true)(hs:Ah side)(k:Az P W0 G r ⟨.al ((d,v)::l),H',n⟩ K):Az P W0 G (⟨some d,none,op⟩::r) ⟨.al l,H,n⟩ K:=by simp only[Az,Hj,h];exact⟨hs,hd,k⟩
theorem Fb {op:AOp}(h:aop G ⟨.al l,H,n⟩ op=some (.skip H'))(k:Az P W0 G r ⟨.al l,H',n⟩ K):Az P W0 G (⟨none,none,op⟩::r) ⟨.al l,H,n⟩ K:=by simp only[Az,Hj,h];exact k
theorem Gz {d:Nat}{op:AOp}{f:Nat}{args:List AVal}{v:AVal}(h:aop G ⟨.al l,H,n⟩ op=some (.call f args))(hd:(bB d n&&bB d 4094)=true)(hc:A5 P W0 f args H v H')(k:Az P W0 G r ⟨.al ((d,v)::l),H',n⟩ K):Az P W0 G (⟨some d,none,op⟩::r) ⟨.al l,H,n⟩ K:=by simp only[Az,Hj,h];exact⟨v,H',hc,hd,k⟩
theorem QM {dst:Option Nat}{op:AOp}{t:Nat}{want b:Bool}(h:lk t l=some (.bool b))(k1:b=want→Az P W0 G (⟨dst,none,op⟩::r) ⟨.al l,H,n⟩ K)(k2:b=(!want)→Az P W0 G (⟨dst,none,.move<|.val<|.tup []⟩::r) ⟨.al l,H,n⟩ K):
 Az P W0 G (⟨dst,some (t,want),op⟩::r) ⟨.al l,H,n⟩ K:=sGuard h k1 k2
theorem SB {dst:Option Nat}{op:AOp}{t:Nat}{want:Bool}(h:lk t l=some (.tup []))(k2:Az P W0 G (⟨dst,none,.move<|.val<|.tup []⟩::r) ⟨.al l,H,n⟩ K):
 Az P W0 G (⟨dst,some (t,want),op⟩::r) ⟨.al l,H,n⟩ K:=PD h k2
theorem OW {d:Nat}{x:AOpd}{id pos:Nat}{s:Bz}(hx:ev G ⟨.al l,H,n⟩ x=some (.ptr id 0))(hi:H[id]?=some (.iter s pos))(hp:bB pos (N s)=true)(hd:(bB d n&&bB d 4094)=true)
 (k:Az P W0 G r ⟨.al ((d,.tup [.bool true,.int .i64 (pos:Nat),.int .i32 ((L2 s pos).1:Nat)])::l),H.set id<|.iter s<|pos+(L2 s pos).2,n⟩ K):Az P W0 G (⟨some d,none,.next x⟩::r) ⟨.al l,H,n⟩ K:=by
 refine Aa (side:=[]) ?_ hd trivial k;simp only[aop,hx,Wt,hi,hp,cond_true,Nat.beq_refl]
theorem lNextNo {d:Nat}{x:AOpd}{id pos:Nat}{s:Bz}(hx:ev G ⟨.al l,H,n⟩ x=some (.ptr id 0))(hi:H[id]?=some (.iter s pos))(hp:bB pos (N s)=false)(hd:(bB d n&&bB d 4094)=true)
 (k:Az P W0 G r ⟨.al ((d,.tup [.bool false])::l),H,n⟩ K):Az P W0 G (⟨some d,none,.next x⟩::r) ⟨.al l,H,n⟩ K:=by
 refine Aa (side:=[]) ?_ hd trivial k;simp_all[aop,Wt]
end
theorem A6 {rs:List RV}{n:Nat}{v:AVal}{H':Hz}{e:Aj}{s:St}{vs:List AVal}(he:(match e with|.exit _=>False|_=>True))(h1:If s rs=some vs)(h2:Cb vs=v)(h3:s.H=H'):Ja rs n v H' e s:=⟨he,vs,h1,.inl ⟨h2,h3⟩⟩
theorem A4 {rs:List RV}{n:Nat}{v:AVal}{H':Hz}{e:Aj}{s:St}{vs:List AVal}(he:(match e with|.exit _=>False|_=>True))(h1:If s rs=some vs)(h2:B7 n (s.H.take n)=true)(m:Nat)(h3:frz s.H n m (Cb vs)=some v)(h4:s.H.take n=H'):Ja rs n v H' e s:=⟨he,vs,h1,.inr ⟨h2,⟨m,h3⟩,h4⟩⟩
section
variable (P : Program) (W0 : World) (G : List (Nat × AVal))
def Bj (o:AOper)(s:St)(K:AVal→Hz→Prop):Prop:=
 match o.guard with
 |none=>Ic P W0 s.H (aop G s o.op) K
 |some (d,want)=>match s.env.get d with
  |some (.bool b)=>cond (cond b want<|not want) (Ic P W0 s.H (aop G s o.op) K) (K (.tup []) s.H)|some (.tup [])=>K (.tup []) s.H|_=>False
def By :List AOper→St→(St→Prop)→Prop
 | [],s,K=>K s|o::r,s,K=>Bj P W0 G o s λv H'=>H'=s.H∧E7 o.dst s.n=true∧By r ⟨Ep o.dst v s.env,s.H,s.n⟩ K
end
section
variable {P : Program} {W0 : World} {G : List (Nat × AVal)}
theorem KR {H:Hz}{r:Option ARes}{K:AVal→Hz→Prop}(h:Ic P W0 H r K):∃v H',Ic P W0 H r (λv' H''=>v'=v∧H''=H')∧K v H':=by unfold Ic at h⊢;grind
theorem Ph {o:AOper}{s:St}{K:AVal→Hz→Prop}(h:Bj P W0 G o s K):∃v H',Bj P W0 G o s (λv' H''=>v'=v∧H''=H')∧K v H':=by
 unfold Bj at h⊢;split at h;·exact KR h
 ·split at h;·rename_i b _;revert h;cases(cond b _ _:Bool)with|true=>exact KR|false=>exact λh=>⟨_,_,⟨rfl,rfl⟩,h⟩
  all_goals grind
theorem H7 {ops:Array Oper}{o:Oper}{a:AOper}(hc:B5 P ops o=some a){s:St}{K:AVal→Hz→Prop}(h:Bj P W0 G a s K):Eu P W0 G ops o s K:=by
 unfold B5 at hc;cases hg:Dm ops o.guard with
 |none=>rw[hg]at hc;cases hc
 |some g=>
  rw[hg]at hc;simp only at hc;cases hop:Au P o.op with
  |none=>rw[hop]at hc;cases hc
  |some op=>
   rw[hop]at hc;injection hc with hc;subst hc;unfold Eu;cases hgd:o.guard with
   |none=>rw[hgd]at hg;simp only[Dm,iS]at hg;subst hg;simp only[D9,hop];exact h
   |some gw=>
    obtain⟨j,want⟩:=gw;rw[hgd]at hg;simp only[Dm]at hg;cases hd:(ops[j]?).bind (·.dst)with
    |none=>rw[hd]at hg;cases hg
    |some d=>
     rw[hd]at hg;simp only[iS]at hg;subst hg;simp only[D9,hd];simp only[Bj]at h;split at h;·grind
     ·grind
     ·exact h.elim
theorem D8 {ops:Array Oper}{o:Oper}{a:AOper}(hc:B5 P ops o=some a):a.dst=o.dst:=by grind[B5]
theorem D4 {ops:Array Oper}:∀{l:List Oper}{az:List AOper},Bh P ops l=some az→N az=N l∧∀(j:Nat) (o:Oper),l[j]?=some o→∃a,az[j]?=some a∧B5 P ops o=some a
 | [],az,hc=>by grind[Bh]
 |o::r,az,hc=>by
  simp only[Bh]at hc;cases ho:B5 P ops o with
  |none=>rw[ho]at hc;cases hc
  |some a=>
   rw[ho]at hc;simp only at hc;cases hr:Bh P ops r with
   |none=>rw[hr]at hc;cases hc
   |some l=>rw[hr]at hc;injection hc with hc;subst hc;obtain⟨h1,h2⟩:=D4 hr;refine⟨by simp[h1],λj o' h=>?_⟩;cases j with|zero=>simp only[eV,iS]at h;subst h;exact⟨a,rfl,ho⟩|succ j=>simp only[eT]at h⊢;exact h2 j o' h
def Ds :List AOper→List AVal→Env→Nat→Env
 |o::r,v::vs,e,j+1=>Ds r vs (Ep o.dst v e) j|_,_,e,_=>e
theorem Qy :∀{l:List AOper}{s:St}{K:St→Prop},By P W0 G l s K→∃vs:List AVal,N vs=N l∧K ⟨Ds l vs s.env<|N l,s.H,s.n⟩∧
 ∀(j:Nat) (a:AOper),l[j]?=some a→∃v,vs[j]?=some v∧Bj P W0 G a ⟨Ds l vs s.env j,s.H,s.n⟩ (λv' H'=>v'=v∧H'=s.H)∧E7 a.dst s.n=true∧Ds l vs s.env (j+1)=Ep a.dst v (Ds l vs s.env j)
 | [],s,K,h=>⟨[],rfl,h,λj a h=>by simp at h⟩
 |o::r,s,K,h=>by
  simp only[By]at h;obtain⟨v,H',h1,h2,h3,h4⟩:=Ph h;subst h2;obtain⟨vs,k1,k2,k3⟩:=Qy h4;refine⟨v::vs,by simp[k1],k2,λj a hj=>?_⟩;cases j with
  |zero=>simp only[eV,iS]at hj;subst hj;refine⟨v,rfl,h1,h3,?_⟩;show Ds r vs _ 0=_;cases r<;>cases vs<;>rfl
  |succ j=>simp only[eT]at hj⊢;exact k3 j a hj
theorem drawQ (hm:P.follows .mixedOrders=true)(hg:GOK W0 G){id:Nat}{ops:Array Oper}{l:List AOper}(hc:Bh P ops ops.toList=some l)(hsp:It P ops (Ey P ops.toList)=true){s:St}{K:Aj→St→Prop}
 (h:By P W0 G l s<|K .normal):Ex P W0 (.region id ops true) s K:=by
 generalize Ey P ops.toList=sp at hsp;obtain⟨hcl,hcg⟩:=D4 hc;obtain⟨vs,r1,r2,r3⟩:=Qy h;have hsz:N l=ops.size:=by omega
 simp only[It,bAt]at hsp;obtain⟨⟨⟨⟨k1,k2⟩,k3⟩,k4⟩,k5⟩:=hsp;have hN:sp.n=ops.size:=nBq k1;have hat:∀(j:Nat) (o:Oper),ops[j]?=some o→T9 P ops sp j o=true:=by grind
 have hat1:∀(j:Nat) (o:Oper),ops[j]?=some o→(∀e∈o.after,eC .any e=true→e.on<j)∧sp.mask.getD j 0=Me sp.mask o∧sp.kind.getD j 0=E4 P o∧
  ∀(i:Nat) (oi:Oper) (d:Nat),ops[i]?=some oi→oi.dst=some d→(i=j∨o.dst≠some d)∧(d∈reads P ops o→sp.msk j i=true∨sp.msk i j=true):=by
  intro j o ho;have:=hat j o ho;simp only[T9,bAt]at this;obtain⟨⟨⟨a1,a2⟩,a3⟩,a4⟩:=this;refine⟨λe he hb=>?_,nBq a2,nBq a3,λi oi d hi hd=>?_⟩;·have:=eB.1 a1 e (by grind);simp_all
  ·have:=eB.1 a4 i<|fC.2 (by grind);rw[hi]at this;simp only[fP,hd,bAt,eI]at this;obtain⟨b1,b2⟩:=this;refine⟨?_,λhr=>?_⟩
   ·rcases b1 with b1|b1;·simp_all
    ·refine .inr λhod=>?_;simp_all[Zh]
   ·have:=eB.1 b2 d hr;simp_all
 have hclosed:∀σ∈sp.states,∀j∈sp.steps σ,eR σ j∈sp.states:=λσ hσ j hj=>Iw<|eB.1 (eB.1 k3 σ hσ) j hj;have hget:∀(j:Nat) (o:Oper),ops[j]?=some o→∃v,vs[j]?=some v∧Eu P W0 G ops o ⟨Ds l vs s.env j,s.H,s.n⟩ (λv' H'=>v'=v∧H'=s.H)∧E7 o.dst s.n=true∧Ds l vs s.env (j+1)=Ep o.dst v (Ds l vs s.env j):=by intro j o ho;obtain⟨a,ha,hca⟩:=hcg j o (by grind);grind[D8,H7]
 let p:Plan:={v:=λj=>(vs[j]?).getD .nilIf,eff:=sp.eff,ok:=λσ=>σ∈sp.states,dn:=tb,nxt:=eR,fin:=sp.fin,Hs:=λ_=>s.H,mask:=sp.msk,env:=Ds l vs s.env};have hp:BA P W0 G ops s p:=by
  refine⟨λj o ho=>(hat1 j o ho).1,λj o i ho hm=>?_,λi j oi oj t hi hj h1 h2=>?_,λj oj t hj ht i oi hi hti=>((hat1 j oj hj).2.2.2 i oi t hi hti).2 ht,?_,λi o ho=>?_,Iw k2,λi _ _=>Nat.zero_testBit i,rfl,λj o ho hef σ hσ hm=>?_,λj o ho hef σ hσ hdn hm _=>?_,λσ hσ hall=>rfl,λj o ho=>?_,λ_ h=>by cases h⟩;·have h2:=(hat1 j o ho).2.1;have hm':tb (sp.mask.getD j 0) i=true:=hm;rw[h2]at hm';exact M9 hm'
  ·grind
  ·show Ds l vs s.env 0=s.env;cases l<;>cases vs<;>rfl
  ·grind
  ·grind
  ·obtain⟨v,b1,b2,b3,b4⟩:=hget j o ho;have hmay:sp.mayB σ j=true:=(X9 (p:=sp) hN).2 hm;grind[SP.steps,BG]
  grind
 grind[Ex.draw]
theorem ExA.draw (hg:Gr P W0 G){l:List AOper}{b:Bool}{s:St}{K:Aj→St→Prop}(h:By P W0 G l s<|K .normal):ExA P W0 (.draw l b) s K:=λc hc=>by obtain⟨id,ops,rfl,h1,h2,_⟩:=Nb hc;exact drawQ hg.mixed hg.g h1 h2 h
end
section
variable {P : Program} {W0 : World} {G : List (Nat × AVal)} {l : List (Nat × AVal)} {H : Hz} {n : Nat} {K : St → Prop} {r : List AOper}
theorem Dx (h:K ⟨.al l,H,n⟩):By P W0 G [] ⟨.al l,H,n⟩ K:=h
theorem Ao {d:Nat}{op:AOp}{v:AVal}{side:List (Int×Int)}(h:aop G ⟨.al l,H,n⟩ op=some (.val v H side))(hd:(bB d n&&bB d 4094)=true)(hs:Ah side)(k:By P W0 G r ⟨.al ((d,v)::l),H,n⟩ K):By P W0 G (⟨some d,none,op⟩::r) ⟨.al l,H,n⟩ K:=by simp only[By,Bj,h];exact⟨hs,rfl,hd,k⟩
theorem Cd {d:Nat}{op:AOp}{f:Nat}{args:List AVal}{v:AVal}(h:aop G ⟨.al l,H,n⟩ op=some (.call f args))(hd:(bB d n&&bB d 4094)=true)(hc:A5 P W0 f args H v H)(k:By P W0 G r ⟨.al ((d,v)::l),H,n⟩ K):By P W0 G (⟨some d,none,op⟩::r) ⟨.al l,H,n⟩ K:=by simp only[By,Bj,h];exact⟨v,H,hc,rfl,hd,k⟩
theorem SQ {dst:Option Nat}{op:AOp}{t:Nat}{want b:Bool}(h:lk t l=some (.bool b))(k1:b=want→By P W0 G (⟨dst,none,op⟩::r) ⟨.al l,H,n⟩ K)(k2:b=(!want)→By P W0 G (⟨dst,none,.move<|.val<|.tup []⟩::r) ⟨.al l,H,n⟩ K):
 By P W0 G (⟨dst,some (t,want),op⟩::r) ⟨.al l,H,n⟩ K:=by
 have h':(Env.al l).get t=some (.bool b):=h;grind[By,Bj,aop,ev,M5,Ic]
end
def Ei {α:Type}:List Nat→List α→List α→List α
 |i::is,o::os,l=>Ei is os (l.set i o)|_,_,l=>l
theorem Gx {α:Type}:∀(is:List Nat) (os l:List α),N (Ei is os l)=N l
 | [],_,_=>rfl|_::_,[],_=>rfl|i::is,o::os,l=>by simp only[Ei];rw[Gx];simp
theorem Il {α:Type}:∀(is:List Nat) (os l:List α) (i:Nat),i∉is→(Ei is os l)[i]?=l[i]?
 | [],_,_,_,_=>rfl|_::_,[],_,_,_=>rfl|k::is,o::os,l,i,h=>by simp only[eS,not_or]at h;simp only[Ei];rw[Il is os _ i h.2,bY<|λe=>h.1 e.symm]
theorem Ig {α:Type}:∀(is:List Nat) (os l:List α) (j i:Nat) (o:α),is.Nodup→is[j]?=some i→os[j]?=some o→i<N l→(Ei is os l)[i]?=some o
 | [],_,_,_,_,_,_,h,_,_=>Tf|_::_,[],_,_,_,_,_,_,h,_=>Tf|k::is,p::os,l,0,i,o,hn,h1,h2,hl=>by grind[Ei,Il]|k::is,p::os,l,j+1,i,o,hn,h1,h2,hl=>by simp only[eT]at h1 h2;simp only[Ei];exact Ig is os _ j i o (List.nodup_cons.1 hn).2 h1 h2 (by grind)
mutual
def ren (ρ : Nat → Nat) : AVal → AVal
  | .agg cs => .agg (F9 ρ cs)
  | .tup cs => .tup (F9 ρ cs)
  | .row k es => .row k (F9 ρ es)
  | .hsl k id off len cap => .hsl k (ρ id) off len cap
  | .ptr id off => .ptr (ρ id) off
  | .optr id off len => .optr (ρ id) off len
  | .eptr e off => .eptr (ren ρ e) off
  | .fn f a c => .fn f (F9 ρ a) (F9 ρ c)
  | .iface t x => .iface t (ren ρ x)
  | .bool b => .bool b
  | .int k n => .int k n
  | .str s => .str s
  | .nilSl => .nilSl
  | .emp => .emp
  | .nilPtr => .nilPtr
  | .nilFn => .nilFn
  | .nilMp => .nilMp
  | .nilIf => .nilIf
  | .mref id => .mref (ρ id)
def F9 (ρ : Nat → Nat) : List AVal → List AVal
  | [] => []
  | v :: r => ren ρ v :: F9 ρ r
end
theorem Dp (ρ:Nat→Nat):∀l,N (F9 ρ l)=N l
 | []=>rfl|_::r=>by simp[F9,Dp ρ r]
def G7 (ρ:Nat→Nat):HObj→HObj
 |.cells T cs op=>.cells T (F9 ρ cs) op|.iter s p=>.iter s p|.mp es=>.mp es|.dead=>.dead
theorem P6 {a b:Bool}(h:cond a b false=true):a=true∧b=true:=by grind
mutual
theorem Ik {ρ : Nat → Nat} : ∀ (a : AVal), blw 0 a = true → ren ρ a = a
  | .agg cs, h => by simp only [ren]; rw [Bv cs h]
  | .tup cs, h => by simp only [ren]; rw [Bv cs h]
  | .row k es, h => by simp only [ren]; rw [Bv es h]
  | .hsl _ _ _ _ _, h => KI
  | .ptr _ _, h => KI
  | .optr _ _ _, h => KI
  | .mref _, h => KI
  | .eptr e off, h => by simp only [ren]; rw [Ik e h]
  | .fn f a c, h => by
    obtain ⟨h1, h2⟩ := P6 h
    simp only [ren]; rw [Bv a h1, Bv c h2]
  | .iface t x, h => by simp only [ren]; rw [Ik x h]
  | .bool _, _ => rfl
  | .int _ _, _ => rfl
  | .str _, _ => rfl
  | .nilSl, _ => rfl
  | .emp, _ => rfl
  | .nilPtr, _ => rfl
  | .nilFn, _ => rfl
  | .nilMp, _ => rfl
  | .nilIf, _ => rfl
theorem Bv {ρ : Nat → Nat} : ∀ (l : List AVal), A8 0 l = true → F9 ρ l = l
  | [], _ => rfl
  | v :: r, h => by
    obtain ⟨h1, h2⟩ := P6 h
    simp only [F9]; rw [Ik v h1, Bv r h2]
end
structure Sel (sel:List Nat)(m:Nat)(H0 H:Hz)(ρ:Nat→Nat):Prop where
 nd:sel.Nodup
 len:N sel=m
 len0:N H0=m
 rho:∀j,j<m→sel[j]?=some (ρ j)
 lt:∀i∈sel,i<N H
 get:∀j o,H0[j]?=some o→H[ρ j]?=some (G7 ρ o)
section
variable {F F' : Nat → Prop} {bs bs0 : List Nat} {H H0 : Hz} {w : World} {ρ : Nat → Nat} {m : Nat}
theorem BS {a b:Nat}(h:bB a b=true):a<b:=by simp_all
structure NW (F F':Nat→Prop)(bs bs0:List Nat)(H H0:Hz)(ρ:Nat→Nat)(m:Nat):Prop where
 get:∀j,j<m→∃o,H0[j]?=some o∧H[ρ j]?=some (G7 ρ o)
 blk:∀j,j<m→bs0[j]?=bs[ρ j]?
 sub:∀b,b∈bs0→b∈bs
 forb:∀b,F' b→F b∨b∈bs
theorem Ib.down (h:NW F F' bs bs0 H H0 ρ m){a:Option Addr}{vs:List Value}{cap:Nat}(hr:Ib F bs w a vs cap):Ib F' bs0 w a vs cap:=by
 cases a with
 |none=>exact hr
 |some a=>
  obtain⟨h1,h2,h3⟩:=hr;refine⟨h1,h2,λj u hj=>?_⟩;obtain⟨⟨hn,hnF⟩,hc⟩:=h3 j u hj;refine⟨⟨λhm=>hn<|h.sub _ hm,λhf=>?_⟩,hc⟩;rcases h.forb _ hf with h'|h';·exact hnF h'
  ·exact hn h'
mutual
theorem Rep.down (h : NW F F' bs bs0 H H0 ρ m) : ∀ (a : AVal) (v : Value), blw m a = true → Rep F bs H w (ren ρ a) v → Rep F' bs0 H0 w a v
  | .agg cs, v, hb, hr => bY104
  | .tup cs, v, hb, hr => bY104
  | .row k es, v, hb, hr => by
    simp only [ren, Rep] at hr ⊢
    obtain ⟨a, cap, vs, h1, h2, h3, h4⟩ := hr
    exact ⟨a, cap, vs, by rw [h1, Dp], Ab.down h es vs hb h2, h3, h4.down h⟩
  | .hsl k id off len cap, v, hb, hr => by
    simp only [ren, Rep] at hr ⊢
    refine ⟨hr.1, ?_⟩
    have hid := BS hb
    obtain ⟨o, ho, ho'⟩ := h.get id hid
    have h2 := hr.2
    unfold D1 at h2 ⊢
    rw [ho'] at h2
    rw [ho]
    cases o with
    | dead => trivial
    | iter s p => exact h2
    | mp es => exact h2
    | cells T cs op =>
      simp only [G7, Dp] at h2
      obtain ⟨q1, q2⟩ := h2
      refine ⟨q1, fun hop => ?_⟩
      obtain ⟨b, c, r1, r2⟩ := q2 hop
      exact ⟨b, c, EB, r2⟩
  | .ptr id off, v, hb, hr => by
    simp only [ren, Rep] at hr ⊢
    refine ⟨hr.1, ?_⟩
    have hid := BS hb
    obtain ⟨o, ho, ho'⟩ := h.get id hid
    have h2 := hr.2
    unfold Fe at h2 ⊢
    rw [ho'] at h2
    rw [ho]
    cases o with
    | dead => trivial
    | iter s p => obtain ⟨b, r1, r2⟩ := h2; exact ⟨b, EB, r2⟩
    | mp es => exact h2
    | cells T cs op =>
      cases op with
      | false => obtain ⟨b, r1, r2⟩ := h2; exact ⟨b, EB, r2⟩
      | true => exact h2
  | .mref id, v, hb, hr => by
    simp only [ren, Rep] at hr ⊢
    refine ⟨hr.1, ?_⟩
    have hid := BS hb
    obtain ⟨o, ho, ho'⟩ := h.get id hid
    have h2 := hr.2
    unfold Hg at h2 ⊢
    rw [ho'] at h2
    rw [ho]
    cases o with
    | dead => trivial
    | iter s p => exact h2
    | cells T cs op => exact h2
    | mp es => obtain ⟨b, r1, r2⟩ := h2; exact ⟨b, EB, r2⟩
  | .optr id off len, v, hb, hr => by
    simp only [ren, Rep] at hr ⊢
    refine ⟨hr.1, ?_⟩
    have hid := BS hb
    obtain ⟨o, ho, ho'⟩ := h.get id hid
    have h2 := hr.2
    unfold G8 at h2 ⊢
    rw [ho'] at h2
    rw [ho]
    cases o with
    | dead => trivial
    | iter s p => exact h2
    | mp es => exact h2
    | cells T cs op =>
      cases op with
      | true =>
        simp only [G7, Dp] at h2
        refine ⟨h2.1, fun hl => ?_⟩
        obtain ⟨b, r1, r2⟩ := h2.2 hl
        exact ⟨b, EB, r2⟩
      | false => exact h2
  | .eptr e off, v, hb, hr => by
    simp only [ren, Rep] at hr ⊢
    obtain ⟨b, base, u, h1, h2, h3, h4, h5⟩ := hr
    refine ⟨b, base, u, h1, Rep.down h e u hb h2, ⟨fun hm => h3.1 (h.sub _ hm), fun hf => ?_⟩, h4, h5⟩
    rcases h.forb _ hf with h' | h'
    · exact h3.2 h'
    · exact h3.1 h'
  | .fn f a c, v, hb, hr => by
    simp only [ren, Rep] at hr ⊢
    obtain ⟨h1, h2⟩ := P6 hb
    obtain ⟨fs, cs, r1, r2, r3⟩ := hr
    exact ⟨fs, cs, r1, Ab.down h a fs h1 r2, Ab.down h c cs h2 r3⟩
  | .iface t x, v, hb, hr => by
    simp only [ren, Rep] at hr ⊢
    obtain ⟨u, h1, h2⟩ := hr
    exact ⟨u, h1, Rep.down h x u hb h2⟩
  | .bool _, v, _, hr => Of
  | .int _ _, v, _, hr => Of
  | .str _, v, _, hr => Of
  | .nilSl, v, _, hr => Of
  | .emp, v, _, hr => Of
  | .nilPtr, v, _, hr => Of
  | .nilFn, v, _, hr => Of
  | .nilMp, v, _, hr => Of
  | .nilIf, v, _, hr => Of
theorem Ab.down (h : NW F F' bs bs0 H H0 ρ m) : ∀ (az : List AVal) (vs : List Value), A8 m az = true → Ab F bs H w (F9 ρ az) vs → Ab F' bs0 H0 w az vs
  | [], vs, _, hr => by simpa only [F9, Ab] using hr
  | a :: az, vs, hb, hr => by
    simp only [F9, Ab] at hr ⊢
    obtain ⟨h1, h2⟩ := P6 hb
    obtain ⟨u, us, rfl, r1, r2⟩ := hr
    exact ⟨u, us, rfl, Rep.down h a u h1 r1, Ab.down h az us h2 r2⟩
end
structure Up (F F':Nat→Prop)(bs bs0:List Nat)(H H0:Hz)(ρ:Nat→Nat):Prop where
 get:∀j o,H0[j]?=some o→H[ρ j]?=some (G7 ρ o)
 blk:∀j b,bs0[j]?=some b→bs[ρ j]?=some b
 out:∀b,b∉bs0→¬F' b→b∉bs∧¬F b
mutual
theorem Rep.up (h : Up F F' bs bs0 H H0 ρ) : ∀ (a : AVal) (v : Value), Rep F' bs0 H0 w a v → Rep F bs H w (ren ρ a) v
  | .agg cs, v, hr => bY110
  | .tup cs, v, hr => bY110
  | .row k es, v, hr => by
    simp only [ren, Rep] at hr ⊢
    obtain ⟨a, cap, vs, h1, h2, h3, h4⟩ := hr
    refine ⟨a, cap, vs, by rw [h1, Dp], Ab.up h es vs h2, h3, ?_⟩
    cases a with
    | none => exact h4
    | some a =>
      obtain ⟨q1, q2, q3⟩ := h4
      refine ⟨q1, q2, fun j u hj => ?_⟩
      obtain ⟨⟨hn, hnF⟩, hc⟩ := q3 j u hj
      exact ⟨h.out _ hn hnF, hc⟩
  | .hsl k id off len cap, v, hr => by
    simp only [ren, Rep] at hr ⊢
    refine ⟨hr.1, ?_⟩
    have h2 := hr.2
    unfold D1 at h2 ⊢
    cases ho : H0[id]? with
    | none => rw [ho] at h2; exact h2.elim
    | some o =>
      rw [ho] at h2
      rw [h.get id o ho]
      cases o with
      | dead => trivial
      | iter s p => exact h2
      | mp es => exact h2
      | cells T cs op =>
        simp only [G7, Dp]
        obtain ⟨q1, q2⟩ := h2
        refine ⟨q1, fun hop => ?_⟩
        obtain ⟨b, c, r1, r2⟩ := q2 hop
        exact ⟨b, c, h.blk id b r1, r2⟩
  | .ptr id off, v, hr => by
    simp only [ren, Rep] at hr ⊢
    refine ⟨hr.1, ?_⟩
    have h2 := hr.2
    unfold Fe at h2 ⊢
    cases ho : H0[id]? with
    | none => rw [ho] at h2; exact h2.elim
    | some o =>
      rw [ho] at h2
      rw [h.get id o ho]
      cases o with
      | dead => trivial
      | iter s p => obtain ⟨b, r1, r2⟩ := h2; exact ⟨b, h.blk id b r1, r2⟩
      | mp es => exact h2
      | cells T cs op =>
        cases op with
        | false => obtain ⟨b, r1, r2⟩ := h2; exact ⟨b, h.blk id b r1, r2⟩
        | true => exact h2
  | .mref id, v, hr => by
    simp only [ren, Rep] at hr ⊢
    refine ⟨hr.1, ?_⟩
    have h2 := hr.2
    unfold Hg at h2 ⊢
    cases ho : H0[id]? with
    | none => rw [ho] at h2; exact h2.elim
    | some o =>
      rw [ho] at h2
      rw [h.get id o ho]
      cases o with
      | dead => trivial
      | iter s p => exact h2
      | cells T cs op => exact h2
      | mp es => obtain ⟨b, r1, r2⟩ := h2; exact ⟨b, h.blk id b r1, r2⟩
  | .optr id off len, v, hr => by
    simp only [ren, Rep] at hr ⊢
    refine ⟨hr.1, ?_⟩
    have h2 := hr.2
    unfold G8 at h2 ⊢
    cases ho : H0[id]? with
    | none => rw [ho] at h2; exact h2.elim
    | some o =>
      rw [ho] at h2
      rw [h.get id o ho]
      cases o with
      | dead => trivial
      | iter s p => exact h2
      | mp es => exact h2
      | cells T cs op =>
        cases op with
        | true =>
          simp only [G7, Dp]
          refine ⟨h2.1, fun hl => ?_⟩
          obtain ⟨b, r1, r2⟩ := h2.2 hl
          exact ⟨b, h.blk id b r1, r2⟩
        | false => exact h2
  | .eptr e off, v, hr => by
    simp only [ren, Rep] at hr ⊢
    obtain ⟨b, base, u, h1, h2, h3, h4, h5⟩ := hr
    exact ⟨b, base, u, h1, Rep.up h e u h2, h.out _ h3.1 h3.2, h4, h5⟩
  | .fn f a c, v, hr => by
    simp only [ren, Rep] at hr ⊢
    obtain ⟨fs, cs, r1, r2, r3⟩ := hr
    exact ⟨fs, cs, r1, Ab.up h a fs r2, Ab.up h c cs r3⟩
  | .iface t x, v, hr => by
    simp only [ren, Rep] at hr ⊢
    obtain ⟨u, h1, h2⟩ := hr
    exact ⟨u, h1, Rep.up h x u h2⟩
  | .bool _, v, hr => Of
  | .int _ _, v, hr => Of
  | .str _, v, hr => Of
  | .nilSl, v, hr => Of
  | .emp, v, hr => Of
  | .nilPtr, v, hr => Of
  | .nilFn, v, hr => Of
  | .nilMp, v, hr => Of
  | .nilIf, v, hr => Of
theorem Ab.up (h : Up F F' bs bs0 H H0 ρ) : ∀ (az : List AVal) (vs : List Value), Ab F' bs0 H0 w az vs → Ab F bs H w (F9 ρ az) vs
  | [], vs, hr => by simpa only [F9, Ab] using hr
  | a :: az, vs, hr => by
    simp only [F9, Ab] at hr ⊢
    obtain ⟨u, us, rfl, r1, r2⟩ := hr
    exact ⟨u, us, rfl, Rep.up h a u r1, Ab.up h az us r2⟩
end
theorem Sv {l:List Nat}(h:∀(i j b:Nat),i<j→l[i]?=some b→l[j]?=some b→False):l.Nodup:=List.pairwise_iff_getElem.2 λi j hi hj hij e=>h i j l[j] hij (by grind)<|gGe hj
def Jw (P:Program)(W0:World)(wr:Value→Ending)(f:FuncId)(args:List AVal)(H:Hz)(v:AVal)(H':Hz):Prop:=
 E1 P f∧∀(F:Nat→Prop) (bs:List Nat) (w:World) (cargs:List Value),Ae W0 F bs H w→Ab F bs H w args cargs→
  Calls P f cargs.toArray w λe w'=>∃cv bs',e=wr cv∧Rep F bs' H' w' v cv∧Ae W0 F bs' H' w'∧Ext bs H w bs' H' w'
theorem Jw.ren {P:Program}{W0:World}{wr:Value→Ending}{f:FuncId}{args:List AVal}{H H0 H0':Hz}{v:AVal}(sel:List Nat)(ρ:Nat→Nat)(hs:Sel sel (N H0) H0 H ρ)(hbH:B7 (N H0) H0=true)(hba:A8 (N H0) args=true)
 (hl:N H0'=N H0) (hc:Jw P W0 wr f args H0 v H0'):Jw P W0 wr f (F9 ρ args) H (ren ρ v) (Ei sel (H0'.map<|G7 ρ) H):=by
 refine⟨hc.1,λF bs w cargs hh hr=>?_⟩;have hbl:N bs=N H:=hh.len;let bs0:List Nat:=sel.map λi=>bs.getD i 0;have hbs0:∀j i,sel[j]?=some i→bs0[j]?=bs[i]?:=λj i hj=>by
  have hi:i<N bs:=by rw[hbl];exact hs.lt i<|mGe hj
  show(sel.map λi=>bs.getD i 0)[j]?=bs[i]?;grind
 have hbsl:N bs0=N H0:=bY206;have hsub:∀b,b∈bs0→b∈bs:=λb hb=>by grind[eX]
 let F':Nat→Prop:=λb=>F b∨(b∈bs∧b∉bs0);have hdown:NW F F' bs bs0 H H0 ρ (N H0):=by refine⟨λj hj=>?_,λj hj=>hbs0 j (ρ j)<|hs.rho j hj,hsub,λb hb=>hb.imp id And.left⟩;exact⟨H0[j],gGe hj,hs.get j _<|gGe hj⟩
 have hnd0:bs0.Nodup:=by
  refine Sv λi j b hij h1 h2=>?_;have hi':i<N sel:=by grind
  have hj':j<N sel:=by grind
  rw[hbs0 i _<|gGe hi']at h1;rw[hbs0 j _<|gGe hj']at h2;have:=Ea hh.nodup h1 h2;have h2:=Ea hs.nd (i:=i) (j:=j) (gGe hi') (by grind);omega
 have hh0:Ae W0 F' bs0 H0 w:=by
  refine⟨hbsl,hh.base,λb hb=>hh.low b<|hsub b hb,hnd0,λb hb=>?_,λi o b hi hb=>?_⟩
  ·rcases hb with hb|⟨hb,hn⟩;·obtain⟨q1,q2,q3⟩:=hh.forb b hb<;>grind
   ·exact⟨(hh.low b hb).1,(hh.low b hb).2,hn⟩
  ·have hil:i<N H0:=(aC.1 hi).1;have hb':bs[ρ i]?=some b:=by rw[←hdown.blk i hil];exact hb
   have ho:=hh.obj (ρ i) (G7 ρ o) b (hs.get i o hi) hb';cases o with
   |dead=>trivial|iter s p=>exact ho|mp es=>exact ho
   |cells T cs op=>
    have hcs:=P9 hbH hi;cases op with
    |false=>obtain⟨vs,rest,fr,q1,q2,q3⟩:=ho;exact⟨vs,rest,fr,q1,Ab.down hdown cs vs hcs q2,q3⟩
    |true=>obtain⟨vs,rest,fr,q1,q2,q3⟩:=ho;exact⟨vs,rest,fr,q1,Ab.down hdown cs vs hcs q2,q3⟩
 refine eU (hc.2 F' bs0 w cargs hh0<|Ab.down hdown args cargs hba hr) λe w' he=>?_;obtain⟨cv,bs0',rfl,hv,hh',he'⟩:=he;have hl0':N bs0'=N sel:=by rw[hh'.len,hl,hs.len]
 have hsl:N sel=N H0':=by grind
 let H':=Ei sel (H0'.map<|G7 ρ) H;let bs':=Ei sel bs0' bs;have hH'l:N H'=N H:=Gx _ _ _;have hbs'l:N bs'=N bs:=Gx _ _ _;have inj:∀(j:Nat),j<N H0→sel[j]?=some (ρ j):=hs.rho;have getO:∀j o,H0'[j]?=some o→H'[ρ j]?=some (G7 ρ o):=λj o ho=>by
  have hj:j<N H0:=by grind
  exact Ig sel _ H j (ρ j) _ hs.nd (inj j hj) (by grind)<|hs.lt _<|mGe<|inj j hj
 have getB:∀j b,bs0'[j]?=some b→bs'[ρ j]?=some b:=λj b hb=>by
  have hj:j<N H0:=by grind
  exact Ig sel _ bs j (ρ j) _ hs.nd (inj j hj) hb (by grind)
 have noO:∀i,i∉sel→H'[i]?=H[i]?:=λi hi=>Il sel _ H i hi;have noB:∀i,i∉sel→bs'[i]?=bs[i]?:=λi hi=>Il sel _ bs i hi;have selj:∀i,i∈sel→∃j,j<N H0∧ρ j=i∧sel[j]?=some i:=λi hi=>by grind[eX]
 have getB':∀i b,bs'[i]?=some b→(i∉sel∧bs[i]?=some b)∨∃j,ρ j=i∧sel[j]?=some i∧bs0'[j]?=some b:=λi b hb=>by grind
 have notin:∀i b,i∉sel→bs[i]?=some b→b∉bs0:=λi b hi hb hm=>by
  obtain⟨j,hj⟩:=eX hm;have hjl:j<N sel:=by grind
  rw[hbs0 j sel[j]<|gGe hjl]at hj;have:=Ea hh.nodup hb hj;grind
 have memB':∀b,b∈bs'→(b∈bs∧b∉bs0)∨b∈bs0':=λb hb=>by obtain⟨i,hi⟩:=eX hb;grind
 have hup:Up F F' bs' bs0' H' H0' ρ:=by refine⟨getO,getB,λb hb hf=>⟨λhm=>?_,λhF=>hf<|.inl hF⟩⟩<;>grind
 have hext:Ext bs H w bs' H' w':=by
  refine⟨he'.size,λk hk hn=>he'.block k hk λhm=>hn<|hsub k hm,λk hk=>?_,λi o ho=>?_⟩
  ·rcases memB' k hk with h1|h1;·grind
   ·rcases he'.new k h1 with h2|h2<;>grind
  ·by_cases hi:i∈sel
   ·obtain⟨j,hj,rfl,hsj⟩:=selj i hi;have ho0:=gGe hj;have hoo:=hs.get j _ ho0;rw[ho]at hoo;injection hoo with hoo;obtain⟨o',hj',hx⟩:=he'.obj j _ ho0;refine⟨G7 ρ o',getO j o' hj',?_⟩;have hbj:bs0[j]?=bs[ρ j]?:=hbs0 j _ hsj;have hbj':bs0'[j]?=bs'[ρ j]?:=by grind
    rw[hoo];cases hc0:H0[j]with
    |dead=>rw[hc0]at hx;simp only[Bi]at hx;subst hx;rfl
    |iter s p=>
     rw[hc0]at hx;rcases hx with rfl|⟨s',p',rfl,hb⟩;·exact .inl Z
     ·exact .inr ⟨s',p',Z,by grind⟩
    |mp es=>
     rw[hc0]at hx;rcases hx with rfl|⟨es',rfl,hb⟩;·exact .inl Z
     ·exact .inr ⟨es',Z,by grind⟩
    |cells T cs op=>
     rw[hc0]at hx;cases op with
     |false=>
      rcases hx with rfl|⟨T',cs',rfl,h1,hb⟩;·exact .inl Z
      ·exact .inr ⟨T',_,Z,by grind[Dp],by grind⟩
     |true=>
      rcases hx with rfl|⟨T',cs',rfl,h1⟩;·exact .inl Z
      ·refine .inr ⟨T',_,Z,?_⟩<;>grind[Dp]
   ·refine⟨o,by grind,?_⟩;have hb:=noB i hi;have hz:∀b,bs[i]?=some b→Dj w' b=Dj w b:=λb hb'=>by unfold Dj;rw[he'.block b (hh.low b<|mGe hb').2 (notin i b hi hb')]
    cases o with|dead=>rfl|iter s p=>exact .inr ⟨s,p,rfl,hb⟩|mp es=>exact .inr ⟨es,rfl,hb⟩|cells T cs op=>cases op with|false=>exact .inr ⟨T,cs,rfl,rfl,hb⟩|true=>exact .inr ⟨T,cs,rfl,.inr ⟨rfl,hb,hz⟩⟩
 refine⟨cv,bs',Z,Rep.up hup v cv hv,?_,hext⟩;refine⟨by grind,hh'.base,λb hb=>?_,?_,λb hb=>?_,λi o b hi hb=>?_⟩
 ·rcases memB' b hb with h1|h1;·exact⟨(hh.low b h1.1).1,nLl (hh.low b h1.1).2 he'.size⟩
  ·exact hh'.low b h1
 ·refine Sv λi j b hij e hb=>?_;rcases getB' i b e with⟨h1,h2⟩|⟨i',h1,h2,h3⟩<;>rcases getB' j b hb with⟨k1,k2⟩|⟨j',k1,k2,k3⟩;·have:=Ea hh.nodup h2 k2;omega
  ·exact(hh'.forb b<|.inr ⟨mGe h2,notin i b h1 h2⟩).2.2 (mGe k3)
  ·exact(hh'.forb b<|.inr ⟨mGe k2,notin j b k1 k2⟩).2.2 (mGe h3)
  ·have:=Ea hh'.nodup h3 k3;grind
 ·obtain⟨q1,q2,q3⟩:=hh'.forb b<|.inl hb;refine⟨q1,q2,λhm=>?_⟩;rcases memB' b hm with h1|h1;·exact(hh.forb b hb).2.2 h1.1
  grind
 ·rcases getB' i b hb with⟨h1,h2⟩|⟨j,rfl,h2,h3⟩;·rw[noO i h1]at hi;exact(hh.obj i o b hi h2).ext hext (he'.block b (hh.low b<|mGe h2).2 (notin i b h1 h2))
  ·have hjl:j<N H0':=by grind
   have h4:=getO j _<|gGe hjl;rw[hi]at h4;injection h4 with h4;have h5:=hh'.obj j _ b (gGe hjl) h3;rw[h4];cases hc0:H0'[j]with
   |dead=>trivial|iter s p=>rw[hc0]at h5;exact h5|mp es=>rw[hc0]at h5;exact h5
   |cells T cs op=>
    rw[hc0]at h5;cases op with
    |false=>obtain⟨vs,rest,fr,q1,q2,q3⟩:=h5;exact⟨vs,rest,fr,q1,Ab.up hup cs vs q2,q3⟩
    |true=>obtain⟨vs,rest,fr,q1,q2,q3⟩:=h5;exact⟨vs,rest,fr,q1,Ab.up hup cs vs q2,q3⟩
theorem A5.ren {P:Program}{W0:World}{f:FuncId}{args:List AVal}{H H0 H0':Hz}{v:AVal}(sel:List Nat)(ρ:Nat→Nat)(hs:Sel sel (N H0) H0 H ρ)(hbH:B7 (N H0) H0=true)(hba:A8 (N H0) args=true)
 (hl:N H0'=N H0) (hc:A5 P W0 f args H0 v H0'):A5 P W0 f (F9 ρ args) H (ren ρ v) (Ei sel (H0'.map<|G7 ρ) H):=Jw.ren (wr:=.returned) sel ρ hs hbH hba hl hc
theorem A5.pure {P:Program}{W0:World}{f:FuncId}{args:List AVal}{v:AVal}(ha:A8 0 args=true)(hv:blw 0 v=true)(hc:A5 P W0 f args [] v [])(H:Hz):A5 P W0 f args H v H:=by have h:=A5.ren (H:=H) [] id ⟨List.nodup_nil,Z,Z,λj hj=>by simp at hj,λi hi=>by simp at hi,λj o ho=>by simp at ho⟩ (H0:=[]) rfl ha rfl hc;rw[Bv args ha,Ik v hv]at h;exact h
end
section
variable {P : Program} {W0 : World} {G : List (Nat × AVal)} {l : List (Nat × AVal)} {H H' : Hz} {n : Nat} {K : St → Prop} {r : List AOper}
theorem lB {d:Nat}{op:AOp}{b:Bool}{side:List (Int×Int)}(h:aop G ⟨.al l,H,n⟩ op=some (.val (.bool b) H' side))(hd:(bB d n&&bB d 4094)=true)(hs:Ah side)
 (k1:b=true→Az P W0 G r ⟨.al ((d,.bool true)::l),H',n⟩ K) (k2:b=false→Az P W0 G r ⟨.al ((d,.bool false)::l),H',n⟩ K):Az P W0 G (⟨some d,none,op⟩::r) ⟨.al l,H,n⟩ K:=by
 cases b<;>grind[Aa]
theorem lCB {d:Nat}{op:AOp}{f:Nat}{args:List AVal}{b:Bool}(h:aop G ⟨.al l,H,n⟩ op=some (.call f args))(hd:(bB d n&&bB d 4094)=true)(hc:A5 P W0 f args H (.bool b) H')
 (k1:b=true→Az P W0 G r ⟨.al ((d,.bool true)::l),H',n⟩ K) (k2:b=false→Az P W0 G r ⟨.al ((d,.bool false)::l),H',n⟩ K):Az P W0 G (⟨some d,none,op⟩::r) ⟨.al l,H,n⟩ K:=by
 cases b<;>grind[Gz]
theorem lGY {dst:Option Nat}{op:AOp}{t:Nat}{want:Bool}(h:lk t l=some (.bool want))(k:Az P W0 G (⟨dst,none,op⟩::r) ⟨.al l,H,n⟩ K):Az P W0 G (⟨dst,some (t,want),op⟩::r) ⟨.al l,H,n⟩ K:=QM h (λ_=>k) (λe=>by grind)
theorem lGN {d:Nat}{op:AOp}{t:Nat}{want:Bool}(h:lk t l=some (.bool<|!want))(hd:(bB d n&&bB d 4094)=true)(k:Az P W0 G r ⟨.al ((d,.tup [])::l),H,n⟩ K):Az P W0 G (⟨some d,some (t,want),op⟩::r) ⟨.al l,H,n⟩ K:=QM h (λe=>by grind)<|λ_=>Aa rfl hd trivial k
theorem lGT {d:Nat}{op:AOp}{t:Nat}{want:Bool}(h:lk t l=some (.tup []))(hd:(bB d n&&bB d 4094)=true)(k:Az P W0 G r ⟨.al ((d,.tup [])::l),H,n⟩ K):Az P W0 G (⟨some d,some (t,want),op⟩::r) ⟨.al l,H,n⟩ K:=SB h<|Aa rfl hd trivial k
theorem qB {d:Nat}{op:AOp}{b:Bool}{side:List (Int×Int)}(h:aop G ⟨.al l,H,n⟩ op=some (.val (.bool b) H side))(hd:(bB d n&&bB d 4094)=true)(hs:Ah side)
 (k1:b=true→By P W0 G r ⟨.al ((d,.bool true)::l),H,n⟩ K) (k2:b=false→By P W0 G r ⟨.al ((d,.bool false)::l),H,n⟩ K):By P W0 G (⟨some d,none,op⟩::r) ⟨.al l,H,n⟩ K:=by
 cases b<;>grind[Ao]
theorem qGY {dst:Option Nat}{op:AOp}{t:Nat}{want:Bool}(h:lk t l=some (.bool want))(k:By P W0 G (⟨dst,none,op⟩::r) ⟨.al l,H,n⟩ K):By P W0 G (⟨dst,some (t,want),op⟩::r) ⟨.al l,H,n⟩ K:=SQ h (λ_=>k) (λe=>by grind)
theorem qGN {d:Nat}{op:AOp}{t:Nat}{want:Bool}(h:lk t l=some (.bool<|!want))(hd:(bB d n&&bB d 4094)=true)(k:By P W0 G r ⟨.al ((d,.tup [])::l),H,n⟩ K):By P W0 G (⟨some d,some (t,want),op⟩::r) ⟨.al l,H,n⟩ K:=SQ h (λe=>by grind)<|λ_=>Ao rfl hd trivial k
end
section
variable {P : Program} {W0 : World} {G : List (Nat × AVal)} {s : St} {K : Aj → St → Prop}
theorem ExA.condT (hg:Gr P W0 G){c:AOpd}{x y:ACode}(hv:ev G s c=some (.bool true))(h:ExA P W0 x s K):ExA P W0 (.cond c x y) s K:=ExA.cond hg hv (λ_=>h) (λe=>by cases e)
theorem ExA.condF (hg:Gr P W0 G){c:AOpd}{x y:ACode}(hv:ev G s c=some (.bool false))(h:ExA P W0 y s K):ExA P W0 (.cond c x y) s K:=ExA.cond hg hv (λe=>by cases e)<|λ_=>h
end
theorem A5.at1 {P:Program}{W0:World}{f:FuncId}{args args':List AVal}{o o' q q':HObj}{v v':AVal}(hc:A5 P W0 f args [o] v [o']){H H':Hz}{id:Nat}(hi:H[id]?=some q)
 (hb:B7 1 [o]=true) (ha:A8 1 args=true) (h1:F9 (λ_=>id) args=args') (h2:Abs.ren (λ_=>id) v=v') (h3:G7 (λ_=>id) o=q) (h4:G7 (λ_=>id) o'=q') (h5:H.set id q'=H'):A5 P W0 f args' H v' H':=by
 subst h1;subst h2;subst h4;subst h5
 have hs:Sel [id] (N [o]) [o] H (λ_=>id):=⟨B4,rfl,rfl,λj hj=>by
  grind,λi h=>by
  grind,λj p h=>by
  grind⟩
 have:=A5.ren (H0:=[o]) (H0':=[o']) [id] (λ_=>id) hs hb ha Z hc;exact this
theorem Tj {α:Type}{l:List α}{i:Nat}{x:α}(h:l[i]?=some x):l.set i x=l:=by apply List.ext_getElem?;grind
theorem w64 {x:Int}(h1:-9223372036854775808≤x)(h2:x≤9223372036854775807):fL.wrap x=x:=by rw[IntKind.wrap_i64];omega
section
variable {P : Program} {W0 : World} {G : List (Nat × AVal)} {l : List (Nat × AVal)} {H : Hz} {n : Nat} {K : St → Prop} {r : List AOper}
theorem lAddN {d:Nat}{x y:AOpd}{a b:Nat}(hx:ev G ⟨.al l,H,n⟩ x=some (.int .i64 a))(hy:ev G ⟨.al l,H,n⟩ y=some (.int .i64 b))(hd:(bB d n&&bB d 4094)=true)(hb:a+b≤9223372036854775807)
 (k:Az P W0 G r ⟨.al ((d,.int .i64 (a+b:Nat))::l),H,n⟩ K):Az P W0 G (⟨some d,none,.bin .add none x y⟩::r) ⟨.al l,H,n⟩ K:=by
 refine Aa (side:=[]) ?_ hd O k;simp only[aop,hx,hy];show Vv H (some (.int .i64<|fL.wrap<|a+b,[]))=_;grind[Vv,w64]
theorem qAddN {d:Nat}{x y:AOpd}{a b:Nat}(hx:ev G ⟨.al l,H,n⟩ x=some (.int .i64 a))(hy:ev G ⟨.al l,H,n⟩ y=some (.int .i64 b))(hd:(bB d n&&bB d 4094)=true)(hb:a+b≤9223372036854775807)
 (k:By P W0 G r ⟨.al ((d,.int .i64 (a+b:Nat))::l),H,n⟩ K):By P W0 G (⟨some d,none,.bin .add none x y⟩::r) ⟨.al l,H,n⟩ K:=by
 refine Ao (side:=[]) ?_ hd O k;simp only[aop,hx,hy];show Vv H (some (.int .i64<|fL.wrap<|a+b,[]))=_;grind[Vv,w64]
end
def P1 :List (Nat×AVal)→Env→Prop
 | [],_=>True|p::r,e=>e.get p.1=some p.2∧P1 r e
theorem agC {t:Nat}{v:AVal}{r:List (Nat×AVal)}{e:Env}(h:e.get t=some v)(k:P1 r e):P1 ((t,v)::r) e:=⟨h,k⟩
theorem agN {e:Env}:P1 [] e:=trivial
theorem Q8 :∀{l:List (Nat×AVal)}{e:Env},P1 l e→∀p∈l,e.get p.1=some p.2
 | [],_,_,_,h=>by cases h
 |q::r,e,ha,p,h=>by
  rcases eS.1 h with rfl|h;·exact ha.1
  ·exact Q8 ha.2 p h
theorem Wl {l:List (Nat×AVal)}{H:Hz}{n:Nat}{s:St}(hn:n=s.n)(hH:H=s.H)(h:P1 l s.env){m:Nat}(hm:m=N s.H):Wk m ⟨.al l,H,n⟩ s:=by subst hm;exact Wk.same hn hH<|Q8 h
theorem wkCut {m:Nat}{l:List (Nat×AVal)}{H:Hz}{n:Nat}{s:St}(hn:n=s.n)(hm:m≤N H)(hH:s.H.take (N H)=H)(h:P1 l s.env)(hb:B7 (N H) H=true)(hl:A8 (N H) (l.map (·.2))=true):Wk m ⟨.al l,H,n⟩ s:=Wk.cut hn hm hH (Q8 h) hb hl
theorem wkLen {l:List (Nat×AVal)}{H:Hz}{n:Nat}{s:St}(hn:n=s.n)(hH:H=s.H)(h:P1 l s.env){m:Nat}(hm:m≤N s.H):Wk m ⟨.al l,H,n⟩ s:=⟨hn,by grind,by grind,HT<|Q8 h,.inl (by rw[hH])⟩
theorem Uk {a b:Nat}(h:a<b):bB a b=true:=by simp_all
theorem BK {a b:Nat}(h:¬a<b):bB a b=false:=by grind[Nat.blt_eq]
theorem TH {s:Bz}{pos:Nat}{b:UInt8}{r:Bz}(h:s.drop pos=b::r)(hb:b.toNat<128):L2 s pos=(b.toNat,1):=by have h1:=Lib.decodeL_drop ⟨s.toArray⟩ pos;grind[L2,Lib.decodeL_ascii]
section
variable {P : Program} {W0 : World} {G : List (Nat × AVal)}
def ExR (P:Program)(W0:World)(c:ACode)(K:Aj→St→Prop):Nat→St→Prop
 |0,_=>False|n+1,s=>ExA P W0 c s λe s'=>e.then s' (ExR P W0 c K n) K
theorem ExR.step {c:ACode}{K:Aj→St→Prop}{n:Nat}{s:St}(h:ExA P W0 c s λe s'=>e.then s' (ExR P W0 c K n) K):ExR P W0 c K (n+1) s:=h
theorem ExA.unroll {c:ACode}{K:Aj→St→Prop}(n:Nat){s:St}(h:ExR P W0 c K n s):ExA P W0 (.loop c) s K:=λk hk=>by obtain⟨k',rfl,hk'⟩:=Gl hk;refine Ex.loop (σ:=Nat) (λn s=>ExR P W0 c K n s) id (i:=n) h ?_;intro i s hi;cases i with|zero=>exact hi.elim|succ i=>refine(hi k' hk').mono λe s' h=>?_;cases e with|normal=>exact⟨i,h,Nat.lt_succ_self i⟩|exit id=>exact h|ret=>exact h
variable {l : List (Nat × AVal)} {H : Hz} {n : Nat} {K : St → Prop} {r : List AOper}
theorem lBk {d:Nat}{op:AOp}{b c:Bool}(h:aop G ⟨.al l,H,n⟩ op=some (.val (.bool b) H []))(hd:(bB d n&&bB d 4094)=true)(hb:b=c)(k:Az P W0 G r ⟨.al ((d,.bool c)::l),H,n⟩ K):Az P W0 G (⟨some d,none,op⟩::r) ⟨.al l,H,n⟩ K:=by subst hb;exact Aa h hd trivial k
theorem qBk {d:Nat}{op:AOp}{b c:Bool}(h:aop G ⟨.al l,H,n⟩ op=some (.val (.bool b) H []))(hd:(bB d n&&bB d 4094)=true)(hb:b=c)(k:By P W0 G r ⟨.al ((d,.bool c)::l),H,n⟩ K):By P W0 G (⟨some d,none,op⟩::r) ⟨.al l,H,n⟩ K:=by subst hb;exact Ao h hd trivial k
theorem lKv {d:Nat}{op:AOp}{v v0:AVal}{H':Hz}{side:List (Int×Int)}(h:aop G ⟨.al l,H,n⟩ op=some (.val v0 H' side))(hd:(bB d n&&bB d 4094)=true)(hs:Ah side)(hv:v0=v)(k:Az P W0 G r ⟨.al ((d,v)::l),H',n⟩ K):Az P W0 G (⟨some d,none,op⟩::r) ⟨.al l,H,n⟩ K:=by grind[Aa]
theorem qKv {d:Nat}{op:AOp}{v v0:AVal}{side:List (Int×Int)}(h:aop G ⟨.al l,H,n⟩ op=some (.val v0 H side))(hd:(bB d n&&bB d 4094)=true)(hs:Ah side)(hv:v0=v)(k:By P W0 G r ⟨.al ((d,v)::l),H,n⟩ K):By P W0 G (⟨some d,none,op⟩::r) ⟨.al l,H,n⟩ K:=by grind[Ao]
end
def FzV (H:Hz)(n:Nat)(v2 v:AVal):Prop:=(∃k,frz H n k v2=some v)∨(v2= .nilSl∧∃k,v= .row k [])
theorem HC {W0:World}{F:Nat→Prop}{bs:List Nat}{H:Hz}{w:World}(hh:Ae W0 F bs H w){n:Nat}{v2 v:AVal}{x:Value}(hr:Rep F bs H w v2 x)(h:FzV H n v2 v):Rep F (bs.take n) (H.take n) w v x:=by
 rcases h with⟨k,h⟩|⟨rfl,k,rfl⟩;·grind[Ui]
 ·simp only[Rep]at hr;subst hr;simp only[Rep,Ab];exact⟨none,0,[],Z,Z,B4,Z,Z⟩
structure Fz (m:Nat)(s1 s2:St):Prop where
 n:s1.n=s2.n
 H:∃k,m≤k∧s1.H=s2.H.take k∧B7 k (s2.H.take k)=true∧∀t v,s1.env.get t=some v→∃v2,s2.env.get t=some v2∧FzV s2.H k v2 v
section
variable {P : Program} {W0 : World} {G : List (Nat × AVal)}
theorem RS.fz {F:Nat→Prop}{bs:List Nat}{s1 s2:St}{a:Act}{w:World}(hs:RS W0 F bs s2 a w){m:Nat}(hf:Fz m s1 s2){bs0:List Nat}{H0:Hz}{w0:World}(he:Ext bs0 H0 w0 bs s2.H w)(hm:N H0=m):
 ∃bs',RS W0 F bs' s1 a w∧Ext bs0 H0 w0 bs' s1.H w:=by
 obtain⟨hn,k,hmk,hH,hb,henv⟩:=hf;refine⟨bs.take k,⟨by rw[hH];exact hs.heap.take hb,by rw[hs.size,hn],λt v hv=>?_⟩,?_⟩;·obtain⟨v2,h1,h2⟩:=henv t v hv;rw[hH];exact HC hs.heap (hs.env t v2 h1) h2
 ·rw[hH];exact he.takeN Y
def ExM (P:Program)(W0:World)(m:Nat)(a:ACode)(s:St)(K:Aj→St→Prop):Prop:=
 ∀c,Bo P c=some a→∀(F:Nat→Prop) (bs:List Nat) (x:Act) (w:World),RS W0 F bs s x w→∀(bs0:List Nat) (H0:Hz) (w0:World),N H0=m→Ext bs0 H0 w0 bs s.H w→∀Q:Exit→Act→World→Prop,
  (∀e s' bs' a' w',K e s'→RS W0 F bs' s' a' w'→Ext bs0 H0 w0 bs' s'.H w'→a'.defers=x.defers→Q (convE e) a' w')→c.wp P Q x w
theorem ExM.of {m:Nat}{a:ACode}{s:St}{K:Aj→St→Prop}(h:ExA P W0 a s K):ExM P W0 m a s K:=λc hc F bs x w hs bs0 H0 w0 _ he Q hq=>h c hc F bs x w hs Q λe s' bs' a' w' h1 h2 h3 h4=>hq e s' bs' a' w' h1 h2 (he.trans h3) h4
theorem ExM.mono {m:Nat}{a:ACode}{s:St}{K K':Aj→St→Prop}(h:ExM P W0 m a s K)(hk:∀e s',K e s'→K' e s'):ExM P W0 m a s K':=λc hc F bs x w hs bs0 H0 w0 hm he Q hq=>h c hc F bs x w hs bs0 H0 w0 hm he Q λe s' bs' a' w' h1=>hq e s' bs' a' w'<|hk e s' h1
theorem ExM.fz {m:Nat}{a:ACode}{s1 s2:St}{K:Aj→St→Prop}(hf:Fz m s1 s2)(h:ExM P W0 m a s1 K):ExM P W0 m a s2 K:=λc hc F bs x w hs bs0 H0 w0 hm he Q hq=>by obtain⟨bs',h1,h2⟩:=hs.fz hf he hm;exact h c hc F bs' x w h1 bs0 H0 w0 hm h2 Q hq
theorem ExM.seq {m:Nat}{x y:ACode}{s:St}{K:Aj→St→Prop}(h:ExM P W0 m x s λe s'=>e.then s' (λs'=>ExM P W0 m y s' K) K):ExM P W0 m (.seq x y) s K:=λc hc=>by obtain⟨a,b,rfl,ha,hb⟩:=Pv hc;intro F bs x w hs bs0 H0 w0 hm he Q hq;refine wp_seq<|h a ha F bs x w hs bs0 H0 w0 hm he _ λe s' bs' a' w' hk hrs hext hd=>?_;cases e with|normal=>exact hk b hb F bs' a' w' hrs bs0 H0 w0 hm hext Q λe2 s2 bs2 a2 w2 h1 h2 h3 h4=>hq e2 s2 bs2 a2 w2 h1 h2 h3 (h4.trans hd)|exit id=>exact hq (.exit id) s' bs' a' w' hk hrs hext hd|ret=>exact hq .ret s' bs' a' w' hk hrs hext hd
theorem ExM.cond (hg:Gr P W0 G){m:Nat}{s:St}{K:Aj→St→Prop}{c:AOpd}{x y:ACode}{b:Bool}(hv:ev G s c=some (.bool b))(ht:b=true→ExM P W0 m x s K)(hf:b=false→ExM P W0 m y s K):ExM P W0 m (.cond c x y) s K:=λk hk=>by obtain⟨p,a,d,rfl,hp,ha,hd⟩:=Nl hk;intro F bs x w hs bs0 H0 w0 hm he Q hq;exact wp_cond_split (t:=b) (by have:=Bd hg.g hs hp hv;grind[Rep]) (λh=>ht h a ha F bs x w hs bs0 H0 w0 hm he Q hq)<|λh=>hf h d hd F bs x w hs bs0 H0 w0 hm he Q hq
theorem ExM.condT (hg:Gr P W0 G){m:Nat}{s:St}{K:Aj→St→Prop}{c:AOpd}{x y:ACode}(hv:ev G s c=some (.bool true))(h:ExM P W0 m x s K):ExM P W0 m (.cond c x y) s K:=ExM.cond hg hv (λ_=>h) (λe=>by cases e)
theorem ExM.condF (hg:Gr P W0 G){m:Nat}{s:St}{K:Aj→St→Prop}{c:AOpd}{x y:ACode}(hv:ev G s c=some (.bool false))(h:ExM P W0 m y s K):ExM P W0 m (.cond c x y) s K:=ExM.cond hg hv (λe=>by cases e)<|λ_=>h
theorem ExM.block {m:Nat}{s:St}{K:Aj→St→Prop}{id:Nat}{x:ACode}(h:ExM P W0 m x s<|fJ id K):ExM P W0 m (.block id x) s K:=λc hc=>by obtain⟨a,rfl,ha⟩:=Ou hc;intro F bs x w hs bs0 H0 w0 hm he Q hq;refine wp_block<|h a ha F bs x w hs bs0 H0 w0 hm he _ λe s' bs' a' w' hk hrs hext hd=>?_;cases e with|normal=>exact hq .normal s' bs' a' w' hk hrs hext hd|ret=>exact hq .ret s' bs' a' w' hk hrs hext hd|exit j=>simp only[fJ]at hk;show if j=id then Q .normal a' w' else Q (.exit j) a' w';cases hj:aA j id with|true=>rw[hj]at hk;rw[if_pos<|nBq hj];exact hq .normal s' bs' a' w' hk hrs hext hd|false=>rw[hj]at hk;rw[if_neg<|aL hj];exact hq (.exit j) s' bs' a' w' hk hrs hext hd
theorem ExM.scope {m:Nat}{s:St}{K:Aj→St→Prop}{x:ACode}(h:ExM P W0 m x s K):ExM P W0 m (.scope x) s K:=λc hc=>by
 obtain⟨a,rfl,ha⟩:=FU hc;intro F bs x w hs bs0 H0 w0 hm he Q hq
 exact wp_scope_straight (h a ha F bs x w hs bs0 H0 w0 hm he _ λe s' bs' a' w' hk hrs hext hd=>by
  have:=hq e s' bs' a' w' hk hrs hext hd
  cases e<;>exact this)
theorem ExM.mark {m:Nat}{s:St}{K:Aj→St→Prop}(h:K .normal s):ExM P W0 m .mark s K:=λc hc=>by obtain⟨l,rfl⟩:=IA hc;intro F bs x w hs bs0 H0 w0 hm he Q hq;exact wp_label<|hq .normal s bs x w h hs he Z
theorem ExM.skip {m:Nat}{s:St}{K:Aj→St→Prop}(h:K .normal s):ExM P W0 m .skip s K:=ExM.of<|ExA.skip h
theorem ExM.exit {m:Nat}{s:St}{K:Aj→St→Prop}{id:Nat}(h:K (.exit id) s):ExM P W0 m (.exit id) s K:=ExM.of<|ExA.exit h
theorem ExM.ret {m:Nat}{s:St}{K:Aj→St→Prop}(h:K .ret s):ExM P W0 m .ret s K:=ExM.of<|ExA.ret h
theorem ExM.draw (hg:Gr P W0 G){m:Nat}{l:List AOper}{b:Bool}{s:St}{K:Aj→St→Prop}(h:By P W0 G l s<|K .normal):ExM P W0 m (.draw l b) s K:=ExM.of<|ExA.draw hg h
theorem ExM.loop {m:Nat}{c:ACode}{σ:Type}(st:σ→St)(Ix:σ→Prop)(μ:σ→Nat)(i:σ){s:St}{K:Aj→St→Prop}(h0:Fz m (st i) s)(hI:Ix i)
 (round:∀i,Ix i→ExM P W0 m c (st i) λe s'=>e.then s' (λs'=>∃j,Ix j∧μ j<μ i∧Fz m (st j) s') K):ExM P W0 m (.loop c) s K:=λk hk=>by
 obtain⟨k',rfl,hk'⟩:=Gl hk;intro F bs a w hs bs0 H0 w0 hm he Q hq;refine Fa (σ:=σ) (λi a' w'=>∃bs',Ix i∧RS W0 F bs' (st i) a' w'∧Ext bs0 H0 w0 bs' (st i).H w'∧a'.defers=a.defers) μ (s:=i) ?_ ?_;·obtain⟨bs',h1,h2⟩:=hs.fz h0 he hm;grind
 ·rintro i a1 w1 ⟨bs1,hi,hrs1,hext1,hd1⟩;refine round i hi k' hk' F bs1 a1 w1 hrs1 bs0 H0 w0 hm hext1 _ λe s' bs' a' w' hkk hrs hext hd=>?_;cases e with
  |normal=>obtain⟨j,hj,hlt,hw⟩:=hkk;obtain⟨bs2,h1,h2⟩:=hrs.fz hw hext hm;exact⟨j,⟨bs2,hj,h1,h2,hd.trans hd1⟩,hlt⟩
  |exit id=>exact hq (.exit id) s' bs' a' w' hkk hrs hext (hd.trans hd1)|ret=>exact hq .ret s' bs' a' w' hkk hrs hext<|hd.trans hd1
def Ag (P:Program)(W0:World)(G:List<|Nat×AVal)(m:Nat)(l:List AOper)(s:St)(K:St→Prop):Prop:=
 ∀(ops:Array Oper) (i:Nat),Bh P ops (ops.toList.drop i)=some l→∀(F:Nat→Prop) (bs:List Nat) (a:Act) (w:World),RS W0 F bs s a w→∀(bs0:List Nat) (H0:Hz) (w0:World),N H0=m→Ext bs0 H0 w0 bs s.H w→∀Q:Exit→Act→World→Prop,
  (∀s' bs' a' w',K s'→RS W0 F bs' s' a' w'→Ext bs0 H0 w0 bs' s'.H w'→a'.defers=a.defers→Q .normal a' w')→wpOps P ops Q (List.range' i<|N l) a w
theorem F3 {ops:Array Oper}{l:List Oper}{o:AOper}{r:List AOper}(h:Bh P ops l=some (o::r)):∃x xs,l=x::xs∧B5 P ops x=some o∧Bh P ops xs=some r:=by cases l<;>grind[Bh]
theorem Bg {m:Nat}{s:St}{K:St→Prop}(h:K s):Ag P W0 G m [] s K:=λops i hc F bs a w hs bs0 H0 w0 hm he Q hq=>by grind[wpOps]
theorem AF (hg:Gr P W0 G){m:Nat}{s:St}{K:St→Prop}{o:AOper}{r:List AOper}(h:Hj P W0 G o s λs'=>Ag P W0 G m r s' K):Ag P W0 G m (o::r) s K:=λops i hc F bs a w hs bs0 H0 w0 hm he Q hq=>by
 obtain⟨x,xs,hd,hx,hxs⟩:=F3 hc;have hi:ops[i]?=some x:=by have h0:=congrArg (λl=>l[0]?) hd;grind
 have hr:ops.toList.drop (i+1)=xs:=by have:=congrArg (List.drop 1) hd;grind[fM]
 have hP:=Nq hx h;simp only[lCo,fK,wpOps,hi];refine J3 hg.g hs hP λs' bs' a' w' hk hrs hext hdf=>?_;exact hk ops (i+1) (by grind) F bs' a' w' hrs bs0 H0 w0 hm (he.trans hext) Q λs2 bs2 a2 w2 h1 h2 h3 h4=>hq s2 bs2 a2 w2 h1 h2 h3<|h4.trans hdf
theorem mFz {m:Nat}{s1 s2:St}{K:St→Prop}{r:List AOper}(hf:Fz m s1 s2)(h:Ag P W0 G m r s1 K):Ag P W0 G m r s2 K:=λops i hc F bs a w hs bs0 H0 w0 hm he Q hq=>by obtain⟨bs',h1,h2⟩:=hs.fz hf he hm;exact h ops i hc F bs' a w h1 bs0 H0 w0 hm h2 Q hq
theorem ExM.ops (_hg:Gr P W0 G){m:Nat}{l:List AOper}{s:St}{K:Aj→St→Prop}(h:Ag P W0 G m l s<|K .normal):ExM P W0 m (.ops l) s K:=λc hc=>by obtain⟨id,ops,rfl,h1⟩:=Un hc;intro F bs a w hs bs0 H0 w0 hm he Q hq;have hlen:=(D4 h1).1;refine wp_region ?_;have:=h ops 0 (by grind) F bs a w hs bs0 H0 w0 hm he Q λs' bs' a' w' hk=>hq .normal s' bs' a' w' hk;grind[List.range_eq_range']
theorem A5.of_fnM {f:Nat}{x:AFn}(hf:Gs P f=some x){args:List AVal}{H:Hz}{v:AVal}{H':Hz}(hl:N args≤4094){n:Nat}(hn:N args+(x.n-N args)=n)
 (h:ExM P W0 (N H) x.code ⟨.al<|Ec 0 args,H,n⟩<|Ja x.res (N H) v H'):A5 P W0 f args H v H':=by
 obtain⟨fn,c,h1,h2,h3,h4,h5,h6⟩:=Kt hf;refine⟨⟨fn,c,h1,h2,h5⟩,λF bs w cargs hh hr=>?_⟩;have hrs:=F8 hh hr hl fn.ntmps;have hrs':RS W0 F bs ⟨.al<|Ec 0 args,H,n⟩ {tmps:=cargs.toArray++fE (fn.ntmps-cargs.toArray.size) undef,defers:=[]} w:=
  ⟨hrs.heap,EQ,λt u hu=>hrs.env t u (by
   rw[Df args 0 .leaf t Y];have hu:lk t (Ec 0 args)=some u:=hu;rw[I5]at hu
   grind)⟩
 refine calls_of_wp h1 h2<|h c h3 F bs _ w hrs' bs H w Z (eA _ _ _) _ λe s' bs' a' w' hk hrs hext hd=>?_;obtain⟨hne,vs,hvs,hlv⟩:=hk;obtain⟨cv,r1,r2⟩:=Es hrs<|Lo h4 hvs;obtain⟨bs'',r3,r4,r5⟩:=Js hrs.heap hext r2 hlv;have fin:bodyPost P fn (λe w'=>∃cv bs',e= .returned cv∧Rep F bs' H' w' v cv∧Ae W0 F bs' H' w'∧Ext bs H w bs' H' w') .ret a' w':=⟨hd,cv,r1,cv,bs'',rfl,r3,r4,r5⟩;cases e with|normal=>exact fin|ret=>exact fin|exit id=>exact hne.elim
variable {m : Nat} {l : List (Nat × AVal)} {H H' : Hz} {n : Nat} {K : St → Prop} {r : List AOper}
def Gok (g:Option<|Nat×Bool)(l:List<|Nat×AVal):Prop:=match g with
 |none=>True|some (t,w)=>lk t l=some (.bool w)
theorem gN :Gok none l:=O
theorem gS {t:Nat}{w:Bool}(h:lk t l=some (.bool w)):Gok (some (t,w)) l:=h
theorem Lr {dst:Option Nat}{g:Option (Nat×Bool)}{op:AOp}(hgd:Gok g l)(h:Ic P W0 H (aop G ⟨.al l,H,n⟩ op) λv H'=>Ru ⟨.al l,H,n⟩ dst v H' K):Hj P W0 G ⟨dst,g,op⟩ ⟨.al l,H,n⟩ K:=by cases g with|none=>exact h|some p=>obtain⟨t,w⟩:=p;have h':(Env.al l).get t=some (.bool w):=hgd;simp only[Hj,h'];cases w<;>exact h
theorem Ac (hg:Gr P W0 G){g:Option (Nat×Bool)}(hgd:Gok g l){d:Nat}{op:AOp}{v:AVal}{side:List (Int×Int)}(h:aop G ⟨.al l,H,n⟩ op=some (.val v H' side))(hd:(bB d n&&bB d 4094)=true)(hs:Ah side)(k:Ag P W0 G m r ⟨.al ((d,v)::l),H',n⟩ K):Ag P W0 G m (⟨some d,g,op⟩::r) ⟨.al l,H,n⟩ K:=by refine AF hg<|Lr hgd ?_;rw[h];exact⟨hs,hd,k⟩
theorem mVal0 (hg:Gr P W0 G){g:Option (Nat×Bool)}(hgd:Gok g l){op:AOp}{v:AVal}{side:List (Int×Int)}(h:aop G ⟨.al l,H,n⟩ op=some (.val v H' side))(hs:Ah side)(k:Ag P W0 G m r ⟨.al l,H',n⟩ K):Ag P W0 G m (⟨none,g,op⟩::r) ⟨.al l,H,n⟩ K:=by refine AF hg<|Lr hgd ?_;rw[h];exact⟨hs,k⟩
theorem Ai (hg:Gr P W0 G){g:Option (Nat×Bool)}(hgd:Gok g l){op:AOp}(h:aop G ⟨.al l,H,n⟩ op=some (.skip H'))(k:Ag P W0 G m r ⟨.al l,H',n⟩ K):Ag P W0 G m (⟨none,g,op⟩::r) ⟨.al l,H,n⟩ K:=by refine AF hg<|Lr hgd ?_;rw[h];exact k
theorem Ge (hg:Gr P W0 G){g:Option (Nat×Bool)}(hgd:Gok g l){d:Nat}{op:AOp}{f:Nat}{args:List AVal}{v:AVal}(h:aop G ⟨.al l,H,n⟩ op=some (.call f args))(hd:(bB d n&&bB d 4094)=true)(hc:A5 P W0 f args H v H')(k:Ag P W0 G m r ⟨.al ((d,v)::l),H',n⟩ K):Ag P W0 G m (⟨some d,g,op⟩::r) ⟨.al l,H,n⟩ K:=by refine AF hg<|Lr hgd ?_;rw[h];exact⟨v,H',hc,hd,k⟩
theorem mB (hg:Gr P W0 G){g:Option (Nat×Bool)}(hgd:Gok g l){d:Nat}{op:AOp}{b:Bool}{side:List (Int×Int)}(h:aop G ⟨.al l,H,n⟩ op=some (.val (.bool b) H' side))(hd:(bB d n&&bB d 4094)=true)(hs:Ah side)
 (k1:b=true→Ag P W0 G m r ⟨.al ((d,.bool true)::l),H',n⟩ K) (k2:b=false→Ag P W0 G m r ⟨.al ((d,.bool false)::l),H',n⟩ K):Ag P W0 G m (⟨some d,g,op⟩::r) ⟨.al l,H,n⟩ K:=by
 cases b<;>grind[Ac]
theorem mCB (hg:Gr P W0 G){g:Option (Nat×Bool)}(hgd:Gok g l){d:Nat}{op:AOp}{f:Nat}{args:List AVal}{b:Bool}(h:aop G ⟨.al l,H,n⟩ op=some (.call f args))(hd:(bB d n&&bB d 4094)=true)(hc:A5 P W0 f args H (.bool b) H')
 (k1:b=true→Ag P W0 G m r ⟨.al ((d,.bool true)::l),H',n⟩ K) (k2:b=false→Ag P W0 G m r ⟨.al ((d,.bool false)::l),H',n⟩ K):Ag P W0 G m (⟨some d,g,op⟩::r) ⟨.al l,H,n⟩ K:=by
 cases b<;>grind[Ge]
theorem Hv (hg:Gr P W0 G){g:Option (Nat×Bool)}(hgd:Gok g l){d:Nat}{op:AOp}{f:Nat}{args:List AVal}{b c:Bool}(h:aop G ⟨.al l,H,n⟩ op=some (.call f args))(hd:(bB d n&&bB d 4094)=true)(hc:A5 P W0 f args H (.bool b) H')(hb:b=c)
 (k:Ag P W0 G m r ⟨.al ((d,.bool c)::l),H',n⟩ K):Ag P W0 G m (⟨some d,g,op⟩::r) ⟨.al l,H,n⟩ K:=by
 grind[Ge]
theorem mGN (hg:Gr P W0 G){d:Nat}{op:AOp}{t:Nat}{want:Bool}(h:lk t l=some (.bool<|!want))(hd:(bB d n&&bB d 4094)=true)(k:Ag P W0 G m r ⟨.al ((d,.tup [])::l),H,n⟩ K):Ag P W0 G m (⟨some d,some (t,want),op⟩::r) ⟨.al l,H,n⟩ K:=by refine AF hg ?_;have h':(Env.al l).get t=some (.bool<|!want):=h;simp only[Hj,h'];cases want<;>exact⟨hd,k⟩
theorem mGT (hg:Gr P W0 G){d:Nat}{op:AOp}{t:Nat}{want:Bool}(h:lk t l=some (.tup []))(hd:(bB d n&&bB d 4094)=true)(k:Ag P W0 G m r ⟨.al ((d,.tup [])::l),H,n⟩ K):Ag P W0 G m (⟨some d,some (t,want),op⟩::r) ⟨.al l,H,n⟩ K:=by refine AF hg ?_;have h':(Env.al l).get t=some (.tup []):=h;simp only[Hj,h'];exact⟨hd,k⟩
theorem mKv (hg:Gr P W0 G){g:Option (Nat×Bool)}(hgd:Gok g l){d:Nat}{op:AOp}{v v0:AVal}{side:List (Int×Int)}(h:aop G ⟨.al l,H,n⟩ op=some (.val v0 H' side))(hd:(bB d n&&bB d 4094)=true)(hs:Ah side)(hv:v0=v)(k:Ag P W0 G m r ⟨.al ((d,v)::l),H',n⟩ K):Ag P W0 G m (⟨some d,g,op⟩::r) ⟨.al l,H,n⟩ K:=by grind[Ac]
theorem mBk (hg:Gr P W0 G){g:Option (Nat×Bool)}(hgd:Gok g l){d:Nat}{op:AOp}{b c:Bool}(h:aop G ⟨.al l,H,n⟩ op=some (.val (.bool b) H []))(hd:(bB d n&&bB d 4094)=true)(hb:b=c)(k:Ag P W0 G m r ⟨.al ((d,.bool c)::l),H,n⟩ K):Ag P W0 G m (⟨some d,g,op⟩::r) ⟨.al l,H,n⟩ K:=by subst hb;exact Ac hg hgd h hd trivial k
end
def Ks (H:Hz)(n:Nat)(e:Env):List (Nat×AVal)→Prop
 | []=>True|p::r=>(∃v2,e.get p.1=some v2∧FzV H n v2 p.2)∧Ks H n e r
theorem Y2 {H:Hz}{n:Nat}{e:Env}:∀{l:List (Nat×AVal)},Ks H n e l→∀p∈l,∃v2,e.get p.1=some v2∧FzV H n v2 p.2
 | [],_,_,h=>Hq
 |q::r,ha,p,h=>by
  rcases eS.1 h with rfl|h;·exact ha.1
  ·exact Y2 ha.2 p h
theorem As {m:Nat}{l:List (Nat×AVal)}{H:Hz}{n:Nat}{s:St}(k:Nat)(hn:n=s.n)(hm:m≤k)(hH:s.H.take k=H)(hb:B7 k H=true)(h:Ks s.H k s.env l):Fz m ⟨.al l,H,n⟩ s:=by
 refine⟨hn,k,hm,hH.symm,by grind,λt v hv=>?_⟩;have key:∀l:List (Nat×AVal),lk t l=some v→(t,v)∈l:=by
  intro l;induction l with
  |nil=>intro h;cases h
  |cons p l ih=>intro hw;obtain⟨u,x⟩:=p;simp only[lk]at hw;cases hb:aA t u with|true=>rw[hb]at hw;simp only[cond_true,iS]at hw;have:=nBq hb;subst this;subst hw;simp|false=>rw[hb]at hw;exact fF _<|ih hw
 exact Y2 h (t,v)<|key l hv
theorem fzC {H:Hz}{n t:Nat}{e:Env}{v2 v:AVal}{r:List (Nat×AVal)}(h:e.get t=some v2)(hf:FzV H n v2 v)(k:Ks H n e r):Ks H n e ((t,v)::r):=⟨⟨v2,h,hf⟩,k⟩
theorem fzN {H:Hz}{n:Nat}{e:Env}:Ks H n e []:=O
theorem fvI {H:Hz}{n:Nat}{k:IntKind}{i:Int}:FzV H n (.int k i) (.int k i):=.inl ⟨1,Z⟩
theorem fvB {H:Hz}{n:Nat}{b:Bool}:FzV H n (.bool b) (.bool b):=.inl ⟨1,Z⟩
theorem fvS {H:Hz}{n:Nat}{s:Bz}:FzV H n (.str s) (.str s):=.inl ⟨1,Z⟩
theorem Oa {H:Hz}{n k:Nat}:FzV H n .nilSl (.row k []):=.inr ⟨Z,k,Z⟩
theorem Am {H:Hz}{n:Nat}:FzV H n .nilSl .nilSl:=.inl ⟨1,Z⟩
def Bm (l:List Nat):List AVal:=l.map λ(d:Nat)=>.int .i64 d
def dg (l:List Nat):AVal:=.row 1<|Bm l
theorem Do (l:List Nat):N (Bm l)=N l:=by simp[Bm]
theorem M3 {H:Hz}{n:Nat}:∀(l:List Nat),He H n (N l+2) (Bm l)=some (Bm l)
 | []=>rfl|d::l=>by have ih:=M3 (H:=H) (n:=n) l;grind[frz,He,Bm]
theorem Ld :∀(l:List Nat) (x:List AVal),Da 1 (N l) (Bm l++x)=Bm l
 | [],_=>rfl|d::l,x=>by show(cond (aA 1 1) (cond (AVal.int .i64 (d:Nat)).one (AVal.int .i64 (d:Nat)) _) _)::Da 1 (N l) (Bm l++x)=_;rw[Ld l];rfl
theorem Bc {n:Nat}:∀(l:List Nat),A8 n (Bm l)=true
 | []=>rfl|_::l=>Bc l
theorem fvD {H:Hz}{n:Nat}{l:List Nat}:FzV H n (dg l) (dg l):=.inl ⟨N l+3,by
 show(match He H n (N l+2) (Bm l)with
  |some es'=>some (AVal.row 1 es')|none=>none)=_
 rw[M3];rfl⟩
theorem R0 {H:Hz}{n id T:Nat}{l:List Nat}{cap:Option Nat}(hn:n≤id)(ho:H[id]?=some (.cells T (Bm l) true)):FzV H n (.hsl 1 id 0 (N l) cap) (dg l):=.inl ⟨N l+3,by
 have h1:bB id n=false:=BK Y;have h2:(aA 0 0&&aA (N l*1) (N<|Bm l))=true:=by simp[Do]
 have h3:=Ld l [];rw[List.append_nil]at h3;simp only[frz,h1,cond_false,ho,h2,cond_true,h3,M3]
 rfl⟩
theorem M8 {H:Hz}{n id T:Nat}{l:List Nat}{cap:Option Nat}(hn:n≤id)(ho:H[id]?=some (.cells T (Bm l) false)):FzV H n (.hsl 1 id 0 (N l) cap) (dg l):=.inl ⟨N l+3,by
 have h1:bB id n=false:=BK Y;have h3:=Ld l [];rw[List.append_nil]at h3;simp only[frz,h1,cond_false,ho,List.drop_zero,h3,M3]
 rfl⟩
section
variable {H : Hz} {n t : Nat} {e : Env} {r : List (Nat × AVal)}
theorem fI {k:IntKind}{i:Int}(x:Ks H n e r)(h:e.get t=some (.int k i):=by rfl):Ks H n e ((t,.int k i)::r):=fzC h fvI x
theorem fB {b:Bool}(x:Ks H n e r)(h:e.get t=some (.bool b):=by rfl):Ks H n e ((t,.bool b)::r):=fzC h fvB x
theorem fS {s:Bz}(x:Ks H n e r)(h:e.get t=some (.str s):=by rfl):Ks H n e ((t,.str s)::r):=fzC h fvS x
end
end Go.Abs
namespace Go.Abs
def Dig (a:List Nat):Prop:=∀d∈a,d<10
def Trd (a:List Nat):Prop:=∀n,N a=n+1→a.getD n 0≠0
def Gk (a:List Nat):Nat→Nat
 |0=>0|n+1=>Gk a n+a.getD n 0*10^n
def val (a:List Nat):Nat:=Gk a<|N a
theorem Dig.get {a:List Nat}(h:Dig a)(i:Nat):a.getD i 0<10:=by
 by_cases hi:i<N a;·rw[eZ,gGe hi];exact h _<|List.getElem_mem hi
 grind
theorem Dig.nil :Dig []:=λ_ h=>Hq
theorem Dig.cons {a:List Nat}{d:Nat}(hd:d<10)(h:Dig a):Dig (d::a):=λx hx=>by
 rcases eS.1 hx with rfl|hx;·exact hd
 ·exact h x hx
theorem Dig.snoc {a:List Nat}{d:Nat}(hd:d<10)(h:Dig a):Dig (a++[d]):=λx hx=>by
 rcases eG.1 hx with hx|hx;·exact h x hx
 grind
theorem Dig.app {a b:List Nat}(ha:Dig a)(hb:Dig b):Dig (a++b):=λx hx=>by
 rcases eG.1 hx with hx|hx;·exact ha x hx
 ·exact hb x hx
theorem Dig.take {a:List Nat}(h:Dig a)(n:Nat):Dig (a.take n):=λx hx=>h x<|dA hx
theorem Dig.zeros (n:Nat):Dig (fH n 0):=λx hx=>by grind
theorem Nr {a:List Nat}(h:Dig a):∀n,Gk a n<10^n
 |0=>by simp[Gk]|n+1=>by have h1:=Nr h n;have h2:=h.get n;have h3:a.getD n 0*10^n≤9*10^n:=aS _ Y;grind[Gk]
theorem GJ {a:List Nat}:∀{n:Nat},N a≤n→Gk a n=val a
 |n,h=>by induction n<;>grind[val,Gk]
theorem Qw {a b:List Nat}:∀{n:Nat},(∀i,i<n→a.getD i 0=b.getD i 0)→Gk a n=Gk b n
 |0,_=>rfl|n+1,h=>by simp only[Gk];rw[Qw (n:=n)<|λi hi=>h i Y,h n Y]
theorem Z8 (x:Nat)(a:List Nat):∀n,Gk (x::a) (n+1)=x+10*Gk a n
 |0=>by simp[Gk]|n+1=>by have ih:=Z8 x a n;grind[Gk]
theorem Jz (x:Nat)(a:List Nat):val (x::a)=x+10*val a:=by rw[val,lCo,Z8];rfl
theorem BY {a:List Nat}{n:Nat}(h:Trd a)(hn:N a=n+1):10^n≤val a:=by have h1:=h n hn;rw[val,hn];simp only[Gk];have:1*10^n≤a.getD n 0*10^n:=aS _ Y;omega
theorem val_pos {a:List Nat}(h:Trd a)(hn:0<N a):0<val a:=by obtain⟨n,hn⟩:∃n,N a=n+1:=⟨N a-1,Y⟩;have:=BY h hn;grind
def La (a:List Nat):Nat→Nat
 |0=>0|n+1=>if a.getD n 0=0 then La a n else n+1
def O4 (a:List Nat):List Nat:=a.take<|La a<|N a
theorem DV (a:List Nat):∀n,La a n≤n
 |0=>bC _
 |n+1=>by
  simp only[La];split;·exact Nat.le_succ_of_le<|DV a n
  omega
theorem Zs (a:List Nat):∀n,Gk a (La a n)=Gk a n
 |0=>rfl
 |n+1=>by
  simp only[La];split;·rename_i h;rw[Zs a n];grind[Gk]
  ·rfl
theorem EU (a:List Nat):∀n k,La a n=k+1→a.getD k 0≠0
 |0,k,h=>Hq
 |n+1,k,h=>by
  simp only[La]at h;split at h;·exact EU a n k h
  grind
theorem MX {a:List Nat}{n i:Nat}(h:i<n):(a.take n).getD i 0=a.getD i 0:=by grind
theorem CO (a:List Nat):N (O4 a)=La a (N a):=by grind[DV,O4]
theorem NA (a:List Nat):val (O4 a)=val a:=by grind[Zs,val,O4,Qw]
theorem RQ (a:List Nat):Trd (O4 a):=λn hn=>by grind[CO,EU,O4,MX]
theorem MY {a:List Nat}(h:Dig a):Dig (O4 a):=h.take _
def S5 (a b:List Nat):Nat→Bool
 |0=>false|n+1=>if a.getD n 0=b.getD n 0 then S5 a b n else decide (a.getD n 0<b.getD n 0)
def Yi (a b:List Nat):Bool:=if N a=N b then S5 a b (N a)else decide (N a<N b)
theorem Zp {a b:List Nat}(ha:Dig a)(hb:Dig b):∀n,S5 a b n=decide (Gk a n<Gk b n)
 |0=>by simp[S5,Gk]
 |n+1=>by
  have ih:=Zp ha hb n;have h1:=Nr ha n;have h2:=Nr hb n;simp only[S5,Gk];split;·grind
  ·rename_i h;refine decide_eq_decide.2 ?_;constructor;·intro hlt;have:(a.getD n 0+1)*10^n≤b.getD n 0*10^n:=aS _ hlt;grind
   ·intro hlt;by_cases hc:a.getD n 0<b.getD n 0;·exact hc
    ·have:(b.getD n 0+1)*10^n≤a.getD n 0*10^n:=aS _ Y;grind
theorem NH {a b:List Nat}(ha:Dig a)(hb:Dig b)(ta:Trd a)(tb:Trd b):Yi a b=decide (val a<val b):=by
 unfold Yi;split;·simp_all[Zp,val]
 ·rename_i h;refine decide_eq_decide.2 ?_;have key:∀{a b:List Nat},Dig a→Trd b→N a<N b→val a<val b:=by intro a b ha tb hlt;obtain⟨n,hn⟩:∃n,N b=n+1:=⟨N b-1,Y⟩;have h1:=BY tb hn;have h2:=Nr ha<|N a;have h3:10^N a≤10^n:=fG V Y;grind[val]
  grind
structure Jc (a b out:List Nat)(i c:Nat):Prop where
 len:N out=i
 dig:Dig out
 hc:c≤1
 v:Gk a i+c*10^i=val out+Gk b i
theorem X5 (out:List Nat)(d:Nat):val (out++[d])=val out+d*10^N out:=by rw[val,lAp,List.length_singleton]<;>grind[val,Gk,Qw]
theorem Jc.zero (a b:List Nat):Jc a b [] 0 0:=⟨Z,Dig.nil,V,by simp[Gk,val]⟩
theorem Jc.step0 {a b out:List Nat}{i c d:Nat}(h:Jc a b out i c)(hd:d<10)(he:a.getD i 0=d+b.getD i 0+c):Jc a b (out++[d]) (i+1) 0:=by obtain⟨h1,h2,h3,h4⟩:=h;refine⟨by simp[h1],h2.snoc hd,V,?_⟩;grind[X5,Gk]
theorem Jc.step1 {a b out:List Nat}{i c d:Nat}(h:Jc a b out i c)(hd:d<10)(he:a.getD i 0+10=d+b.getD i 0+c):Jc a b (out++[d]) (i+1) 1:=by obtain⟨h1,h2,h3,h4⟩:=h;refine⟨by simp[h1],h2.snoc hd,V,?_⟩;grind[X5,Gk]
theorem Jc.fin {a b out:List Nat}{c:Nat}(h:Jc a b out (N a) c)(ha:Dig a)(hb:Dig b)(tb:Trd b)(hv:val b≤val a):val out+val b=val a:=by
 obtain⟨h1,h2,h3,h4⟩:=h;have hl:N b≤N a:=by apply fA;intro hc;obtain⟨n,hn⟩:∃n,N b=n+1:=⟨N b-1,Y⟩;have k1:=BY tb hn;have k2:=Nr ha<|N a;have k3:10^N a≤10^n:=fG V Y;grind[val]
 rw[GJ hl]at h4;have k1:Gk a (N a)=val a:=rfl;have k2:=Nr h2<|N out;have k3:val out=Gk out (N out):=rfl;rw[h1]at k2 k3;rw[k1]at h4;have hc:c=0:=by grind
 grind
def Eh (n:Nat):List Nat:=if n=0 then[]else n%10::Eh (n/10)
decreasing_by omega
theorem G4 :Eh 0=[]:=by rw[Eh];rfl
theorem Ju {n:Nat}(h:n≠0):Eh n=n%10::Eh (n/10):=by rw[Eh,if_neg h]
theorem F5 (n:Nat):val (Eh n)=n:=by
 induction n using eF with
 |_ n ih=>
  by_cases h:n=0;·subst h;rw[G4];rfl
  ·grind[Ju,Jz]
theorem I4 (n:Nat):Dig (Eh n):=by induction n using eF<;>grind[G4,Dig.nil,Ju,Dig.cons]
theorem DR {n:Nat}(h:Eh n=[]):n=0:=by have:=F5 n;rw[h]at this;exact this.symm
theorem Wi {n:Nat}(h:n≠0):N (Eh n)≠0:=λe=>h<|DR<|eW.1 e
theorem Tm (n:Nat):Trd (Eh n):=by
 induction n using eF with
 |_ n ih=>
  intro k hk;by_cases h:n=0;·grind[G4]
  ·rw[Ju h]at hk⊢;by_cases h1:n/10=0;·grind[G4]
   ·have hne:=Wi h1;rw[lCo]at hk;obtain⟨j,hj⟩:∃j,k=j+1:=⟨k-1,Y⟩;subst hj;exact ih (n/10) Y j Y
theorem Trd.tail {d:Nat}{l:List Nat}(h:Trd (d::l)):Trd l:=λn hn=>by have:=h (n+1) (by grind);exact this
theorem Ur :∀{l:List Nat},Dig l→Trd l→Eh (val l)=l
 | [],_,_=>G4|d::l,hd,ht=>by have ih:=Ur (l:=l) (λx hx=>hd x<|fF _ hx) ht.tail;have hd0:d<10:=hd d B4;grind[Jz,val_pos,Ju]
theorem P2 {l:List Nat}(h:Dig l):O4 l=Eh (val l):=by grind[NA,Ur,MY,RQ]
theorem G2 {n k:Nat}(h:n<10^k):N (Eh n)≤k:=by apply fA;intro hc;obtain⟨j,hj⟩:∃j,N (Eh n)=j+1:=⟨N (Eh n)-1,Y⟩;have h1:=BY (Tm n) hj;rw[F5]at h1;have h2:10^k≤10^j:=fG V Y;omega
theorem MU (n:Nat):(Eh n).getD 0 0=n%10:=by grind[G4,Ju]
theorem less_dN (x y:Nat):Yi (Eh x) (Eh y)=decide (x<y):=by simp_all[NH,I4,Tm,F5]
theorem NS (n:Nat)(l:List Nat):val (fH n 0++l)=val l*10^n:=by induction n<;>simp_all[List.replicate_succ,Jz,Nat.pow_succ,fO,Nat.mul_assoc]
theorem Trd.zeros {l:List Nat}(h:Trd l)(hl:N l≠0)(n:Nat):Trd (fH n 0++l):=λk hk=>by rw[lAp,fN]at hk;rw[eZ,List.getElem?_append_right Jo,fN,←eZ];exact h (k-n) Y
theorem ten_dN {x:Nat}(hx:x≠0)(n:Nat):fH n 0++Eh x=Eh (x*10^n):=by rw[←Ur ((Dig.zeros n).app<|I4 x) ((Tm x).zeros (Wi hx) n),NS,F5]
structure S0 (a b out:List Nat)(i c:Nat):Prop where
 len:N out=i
 dig:Dig out
 hc:c≤1
 v:val out+c*10^i=Gk a i+Gk b i
 e:i≤max (N a) (N b)∨(i=max (N a) (N b)+1∧c=0)
theorem S0.zero (a b:List Nat):S0 a b [] 0 0:=⟨Z,Dig.nil,V,by simp[Gk,val],.inl<|Nat.zero_le _⟩
theorem S0.step {a b out:List Nat}{i c:Nat}(h:S0 a b out i c)(ha:Dig a)(hb:Dig b)(hi:i<N a∨i<N b∨0<c):S0 a b (out++[(a.getD i 0+b.getD i 0+c)%10]) (i+1) ((a.getD i 0+b.getD i 0+c)/10):=by obtain⟨h1,h2,h3,h4,h5⟩:=h;have k1:=ha.get i;have k2:=hb.get i;refine⟨by simp[h1],h2.snoc<|Nat.mod_lt _ V,Y,?_,?_⟩;all_goals grind[X5,Gk,Nat.div_add_mod]
theorem S0.fin {a b out:List Nat}{i c:Nat}(h:S0 a b out i c)(h1:¬i<N a)(h2:¬i<N b)(h3:¬0<c):val out=val a+val b:=by have:=h.v;grind[GJ]
structure ByI (a:List Nat)(y:Nat)(q:List Nat)(r k:Nat):Prop where
 hk:k≤N a
 len:N q+k=N a
 dig:Dig q
 hr:r<y
 v:val q*y+r=val (a.drop k)
theorem ByI.zero (a:List Nat){y:Nat}(hy:0<y):ByI a y [] 0 (N a):=⟨bC _,B4,Dig.nil,hy,by simp[val,Gk]⟩
theorem Y3 {a:List Nat}{k:Nat}(h:k<N a):a.drop k=a.getD k 0::a.drop (k+1):=by simp_all
theorem ByI.step {a:List Nat}{y:Nat}{q:List Nat}{r k d r':Nat}(h:ByI a y q r<|k+1)(ha:Dig a)(hr:r'<y)(hd:d*y+r'=a.getD k 0+10*r):ByI a y (d::q) r' k∧d<10:=by
 obtain⟨h1,h2,h3,h4,h5⟩:=h;have k1:=ha.get k;have hd10:d<10:=by apply fA;intro hc;have:10*y≤d*y:=aS _ Y;omega
 refine⟨⟨Y,Jo,h3.cons hd10,hr,?_⟩,hd10⟩;grind[Y3,Jz]
theorem ByI.fin {a:List Nat}{y:Nat}{q:List Nat}{r:Nat}(h:ByI a y q r 0):val q=val a/y∧r=val a%y:=by
 obtain⟨h1,h2,h3,h4,h5⟩:=h;rw[List.drop_zero]at h5;have hy:0<y:=Y;refine⟨?_,?_⟩;·rw[←h5,fO,Nat.mul_add_div hy,Nat.div_eq_of_lt h4,aZ]
 grind[fO,Nat.mul_add_mod,Nat.mod_eq_of_lt]
end Go.Abs
namespace Go.Abs
open Go.RowKit
def Aw (P:Program)(W0:World)(f:FuncId)(args:List AVal)(Q:AVal→Prop):Prop:=
 E1 P f∧∀(F:Nat→Prop) (w:World) (cargs:List Value),Ae W0 F [] [] w→Ab F [] [] w args cargs→
  Calls P f cargs.toArray w λe w'=>∃v cv,Q v∧e= .returned cv∧Rep F [] [] w' v cv∧Ae W0 F [] [] w'∧Ext [] [] w [] [] w'
section
variable {P : Program} {W0 : World} {G : List (Nat × AVal)}
theorem Aw.of {f:FuncId}{args:List AVal}{v:AVal}(h:A5 P W0 f args [] v []):Aw P W0 f args (λx=>x=v):=by refine⟨h.1,λF w cargs hh hr=>eU (h.2 F [] w cargs hh hr) λe w' he=>?_⟩;obtain⟨cv,bs',rfl,h1,h2,h3⟩:=he;have hb:bs'=[]:=eW.1 (by simpa using h2.len);grind
theorem Aw.mono {f:FuncId}{args:List AVal}{Q Q':AVal→Prop}(h:Aw P W0 f args Q)(hq:∀v,Q v→Q' v):Aw P W0 f args Q':=⟨h.1,λF w cargs hh hr=>eU (h.2 F w cargs hh hr) λ_ _ ⟨v,cv,k1,k2⟩=>⟨v,cv,hq v k1,k2⟩⟩
theorem Aw.at {f:FuncId}{args:List AVal}{Q:AVal→Prop}(h:Aw P W0 f args Q)(ha:A8 0 args=true)(hq:∀v,Q v→blw 0 v=true){F:Nat→Prop}{bs:List Nat}{H:Hz}{w:World}{cargs:List Value}(hh:Ae W0 F bs H w)(hr:Ab F bs H w args cargs):
 Calls P f cargs.toArray w λe w'=>∃v cv,Q v∧e= .returned cv∧Rep F bs H w' v cv∧Ae W0 F bs H w'∧Ext bs H w bs H w':=by
 let F':Nat→Prop:=λb=>F b∨b∈bs;have hh0:Ae W0 F' [] [] w:=by
  refine⟨Z,hh.base,λb hb=>(eY hb).elim,List.nodup_nil,λb hb=>?_,λi o b hi=>by simp at hi⟩;rcases hb with hb|hb;·obtain⟨q1,q2,_⟩:=hh.forb b hb;grind
  ·exact⟨(hh.low b hb).1,(hh.low b hb).2,eY⟩
 have hdown:NW F F' bs [] H [] id 0:=⟨λj hj=>by omega,λj hj=>by omega,λb hb=>(eY hb).elim,λb hb=>hb⟩;have hr0:Ab F' [] [] w args cargs:=Ab.down hdown args cargs ha (by grind[Bv]);refine eU (h.2 F' w cargs hh0 hr0) λe w' he=>?_;obtain⟨v,cv,k1,rfl,k3,k4,k5⟩:=he;have hup:Up F F' bs [] H [] id:=⟨λj o ho=>by simp at ho,λj b hb=>by simp at hb,λb _ hf=>⟨λhm=>hf<|.inr hm,λhF=>hf<|.inl hF⟩⟩;have hz:∀b,b<w.heap.size→Dj w' b=Dj w b:=λb hb'=>by unfold Dj;rw[k5.block b hb' B4]
 have hext:Ext bs H w bs H w':=by refine⟨k5.size,λk hk _=>k5.block k hk B4,λk hk=>.inl hk,λi o ho=>⟨o,ho,?_⟩⟩;cases o with|dead=>rfl|iter s p=>exact .inr ⟨s,p,rfl,rfl⟩|mp es=>exact .inr ⟨es,rfl,rfl⟩|cells T cs op=>cases op with|false=>exact .inr ⟨T,cs,rfl,rfl,rfl⟩|true=>exact .inr ⟨T,cs,rfl,.inr ⟨rfl,rfl,λb hb=>hz b (hh.low b<|mGe hb).2⟩⟩
 refine⟨v,cv,k1,Z,?_,?_,hext⟩;·have:=Rep.up hup v cv k3;grind[Ik]
 ·exact⟨hh.len,k4.base,λb hb=>⟨(hh.low b hb).1,nLl (hh.low b hb).2 k5.size⟩,hh.nodup,λb hb=>by
  obtain⟨q1,q2,q3⟩:=hh.forb b hb
  exact⟨q1,nLl q2 k5.size,q3⟩,λi o b hi hb=>(hh.obj i o b hi hb).ext hext (k5.block b (hh.low b (mGe hb)).2 B4)⟩
theorem Aw.of_fnM {f:Nat}{x:AFn}(hf:Gs P f=some x){args:List AVal}{Q:AVal→Prop}(hl:N args≤4094){n:Nat}(hn:N args+(x.n-N args)=n)
 (h:ExM P W0 0 x.code ⟨.al<|Ec 0 args,[],n⟩ λe s=>∃v,Q v∧Ja x.res 0 v [] e s):Aw P W0 f args Q:=by
 obtain⟨fn,c,h1,h2,h3,h4,h5,h6⟩:=Kt hf;refine⟨⟨fn,c,h1,h2,h5⟩,λF w cargs hh hr=>?_⟩;have hrs:=F8 hh hr hl fn.ntmps;have hrs':RS W0 F [] ⟨.al<|Ec 0 args,[],n⟩ {tmps:=cargs.toArray++fE (fn.ntmps-cargs.toArray.size) undef,defers:=[]} w:=
  ⟨hrs.heap,EQ,λt u hu=>hrs.env t u (by
   rw[Df args 0 .leaf t Y];have hu:lk t (Ec 0 args)=some u:=hu;rw[I5]at hu
   grind)⟩
 refine calls_of_wp h1 h2<|h c h3 F [] _ w hrs' [] [] w Z (eA _ _ _) _ λe s' bs' a' w' hk hrs hext hd=>?_;obtain⟨v,hQ,hne,vs,hvs,hlv⟩:=hk;obtain⟨cv,r1,r2⟩:=Es hrs<|Lo h4 hvs;obtain⟨bs'',r3,r4,r5⟩:=Js (H0:=[]) hrs.heap hext r2 hlv;have hb:bs''=[]:=eW.1 (by simpa using r4.len);subst hb;have fin:bodyPost P fn (λe w'=>∃v cv,Q v∧e= .returned cv∧Rep F [] [] w' v cv∧Ae W0 F [] [] w'∧Ext [] [] w [] [] w') .ret a' w':=⟨hd,cv,r1,v,cv,hQ,rfl,r3,r4,r5⟩;cases e with|normal=>exact fin|ret=>exact fin|exit id=>exact hne.elim
variable {m : Nat} {l : List (Nat × AVal)} {H H' : Hz} {n : Nat} {K : St → Prop} {r : List AOper}
theorem C4 (hg:Gr P W0 G){g:Option (Nat×Bool)}(hgd:Gok g l){d:Nat}{op:AOp}{f:Nat}{args:List AVal}{Q:AVal→Prop}(h:aop G ⟨.al l,H,n⟩ op=some (.call f args))(hd:(bB d n&&bB d 4094)=true)(ha:A8 0 args=true)(hc:Aw P W0 f args Q)(hq:∀v,Q v→blw 0 v=true)
 (k:∀v,Q v→Ag P W0 G m r ⟨.al ((d,v)::l),H,n⟩ K):Ag P W0 G m (⟨some d,g,op⟩::r) ⟨.al l,H,n⟩ K:=λops i hco F bs a w hs bs0 H0 w0 hm he Q0 hq0=>by
 obtain⟨x,xs,hdr,hx,hxs⟩:=F3 hco;have hi:ops[i]?=some x:=by have h0:=congrArg (λl=>l[0]?) hdr;grind
 have hr:ops.toList.drop (i+1)=xs:=by have:=congrArg (List.drop 1) hdr;grind[fM]
 simp only[lCo,fK,wpOps,hi];have hdst:x.dst=some d:=(D8 hx).symm;have hop:∃o',Au P x.op=some o'∧o'=op:=by grind[B5]
 obtain⟨o',ho',rfl⟩:=hop;have hg':D9 ops ⟨.al l,H,n⟩ x.guard=some true:=by
  unfold B5 at hx;cases hgx:Dm ops x.guard with
  |none=>rw[hgx]at hx;cases hx
  |some gx=>
   rw[hgx]at hx;simp only[ho']at hx;injection hx with hx;injection hx with _ hx _;subst hx;cases hxg:x.guard with
   |none=>rfl
   |some gw=>
    obtain⟨j,want⟩:=gw;rw[hxg]at hgx;simp only[Dm]at hgx;cases hd':(ops[j]?).bind (·.dst)with
    |none=>rw[hd']at hgx;cases hgx
    |some d'=>rw[hd']at hgx;simp only[iS]at hgx;subst hgx;have hl:(Env.al l).get d'=some (.bool want):=hgd;simp only[D9,hd',hl];cases want<;>rfl
 rw[Pe hs hg'];simp only[if_true];refine .inl ?_;have hok:=Ut (P:=P) hg.g hs ho' h;obtain⟨cargs,h1,h2⟩:=hok hc.1;unfold Oper.wp;rw[h1,Oper.upon_enter];refine eU (hc.at ha hq hs.heap h2) λe w' he'=>?_;obtain⟨v,cv,k1,rfl,k3,k4,k5⟩:=he';obtain⟨s',hK,hrs,hH⟩:=hs.put (dst:=x.dst) (K:=λs'=>s'=⟨.al ((d,v)::l),H,n⟩) k3 k4 k5 (by rw[hdst];exact⟨hd,rfl⟩);subst hK;have hput:∀(dst:Option Tmp) (v:Value),(a.put dst v).defers=a.defers:=λdst v=>AA;exact k v k1 ops (i+1) (by grind) F bs _ w' hrs bs0 H0 w0 hm (he.trans k5) Q0 λs2 bs2 a2 w2 e1 e2 e3 e4=>hq0 s2 bs2 a2 w2 e1 e2 e3<|e4.trans<|hput _ _
end
theorem Bw {x y:Int}(h1:-9223372036854775808≤x)(h2:x≤9223372036854775807)(h:x=y):AVal.int .i64 (fL.wrap x)= .int .i64 y:=by rw[w64 h1 h2,h]
theorem iE {k:IntKind}{x y:Int}(h:x=y):AVal.int k x= .int k y:=by rw[h]
section
variable {P : Program} {W0 : World} {G : List (Nat × AVal)} {m : Nat} {l : List (Nat × AVal)} {H H' : Hz} {n : Nat} {K : St → Prop} {r : List AOper} {g : Option (Nat × Bool)} {d : Nat} {op : AOp} {side : List (Int × Int)}
theorem mV {v:AVal}(h:aop G ⟨.al l,H,n⟩ op=some (.val v H' []))(k:Ag P W0 G m r ⟨.al ((d,v)::l),H',n⟩ K)(hg:Gr P W0 G:=by assumption)(hgd:Gok g l:=by first|exact gN|exact gS rfl)(hd:(Nat.blt d n&&Nat.blt d 4094)=true:=by rfl):Ag P W0 G m (⟨some d,g,op⟩::r) ⟨.al l,H,n⟩ K:=Ac hg hgd h hd O k
theorem mS {v:AVal}(h:aop G ⟨.al l,H,n⟩ op=some (.val v H' side))(k:Ag P W0 G m r ⟨.al ((d,v)::l),H',n⟩ K)(hg:Gr P W0 G:=by assumption)(hgd:Gok g l:=by first|exact gN|exact gS rfl)(hd:(Nat.blt d n&&Nat.blt d 4094)=true:=by rfl)(hs:Ah side:=by first|exact trivial|decide|(simp only[Bl,Di,Ah,and_true,Do,lCo,lNi,lAp];omega)|(simp only[Bl,Di,Ah,and_true,C0,List.length_map];omega)):Ag P W0 G m (⟨some d,g,op⟩::r) ⟨.al l,H,n⟩ K:=Ac hg hgd h hd hs k
theorem mG {t:Nat}{want:Bool}(k:Ag P W0 G m r ⟨.al ((d,.tup [])::l),H,n⟩ K)(hg:Gr P W0 G:=by assumption)(h:lk t l=some (.bool<|!want):=by rfl)(hd:(Nat.blt d n&&Nat.blt d 4094)=true:=by rfl):Ag P W0 G m (⟨some d,some (t,want),op⟩::r) ⟨.al l,H,n⟩ K:=mGN hg h hd k
theorem mK {v v0:AVal}(h:aop G ⟨.al l,H,n⟩ op=some (.val v0 H' []))(hv:v0=v)(k:Ag P W0 G m r ⟨.al ((d,v)::l),H',n⟩ K)(hg:Gr P W0 G:=by assumption)(hgd:Gok g l:=by first|exact gN|exact gS rfl)(hd:(Nat.blt d n&&Nat.blt d 4094)=true:=by rfl):Ag P W0 G m (⟨some d,g,op⟩::r) ⟨.al l,H,n⟩ K:=mKv hg hgd h hd O hv k
theorem mKs {v v0:AVal}(h:aop G ⟨.al l,H,n⟩ op=some (.val v0 H' side))(hv:v0=v)(k:Ag P W0 G m r ⟨.al ((d,v)::l),H',n⟩ K)(hg:Gr P W0 G:=by assumption)(hgd:Gok g l:=by first|exact gN|exact gS rfl)(hd:(Nat.blt d n&&Nat.blt d 4094)=true:=by rfl)(hs:Ah side:=by first|exact trivial|decide|(simp only[Bl,Di,Ah,and_true,Do,lCo,lNi,lAp];omega)|(simp only[Bl,Di,Ah,and_true,C0,List.length_map];omega)):Ag P W0 G m (⟨some d,g,op⟩::r) ⟨.al l,H,n⟩ K:=mKv hg hgd h hd hs hv k
theorem mI (x:Int){y:Int}(h:aop G ⟨.al l,H,n⟩ op=some (.val (.int .i64<|IntKind.i64.wrap y) H' side))(k:Ag P W0 G m r ⟨.al ((d,.int .i64 x)::l),H',n⟩ K)(hg:Gr P W0 G:=by assumption)(hgd:Gok g l:=by first|exact gN|exact gS rfl)(hd:(Nat.blt d n&&Nat.blt d 4094)=true:=by rfl)(hs:Ah side:=by first|exact trivial|decide|(simp only[Bl,Di,Ah,and_true,Do,lCo,lNi,lAp];omega)|(simp only[Bl,Di,Ah,and_true,C0,List.length_map];omega))
 (h1:-9223372036854775808≤y:=by omega) (h2:y≤9223372036854775807:=by omega) (h3:y=x:=by omega):Ag P W0 G m (⟨some d,g,op⟩::r) ⟨.al l,H,n⟩ K:=mKv hg hgd h hd hs (Bw h1 h2 h3) k
theorem mT {b:Bool}(h:aop G ⟨.al l,H,n⟩ op=some (.val (.bool b) H []))(k:Ag P W0 G m r ⟨.al ((d,.bool true)::l),H,n⟩ K)(hg:Gr P W0 G:=by assumption)(hgd:Gok g l:=by first|exact gN|exact gS rfl)(hd:(Nat.blt d n&&Nat.blt d 4094)=true:=by rfl)(hb:b=true:=by first|exact decide_eq_true Y|(rw[beq_iff_eq];omega)|(rw[bne_iff_ne];omega)|decide):Ag P W0 G m (⟨some d,g,op⟩::r) ⟨.al l,H,n⟩ K:=mBk hg hgd h hd hb k
theorem mF {b:Bool}(h:aop G ⟨.al l,H,n⟩ op=some (.val (.bool b) H []))(k:Ag P W0 G m r ⟨.al ((d,.bool false)::l),H,n⟩ K)(hg:Gr P W0 G:=by assumption)(hgd:Gok g l:=by first|exact gN|exact gS rfl)(hd:(Nat.blt d n&&Nat.blt d 4094)=true:=by rfl)(hb:b=false:=by first|exact dF Y|(rw[bFn];omega)|(rw[bNf];omega)|decide):Ag P W0 G m (⟨some d,g,op⟩::r) ⟨.al l,H,n⟩ K:=mBk hg hgd h hd hb k
theorem mC {f:Nat}{args:List AVal}{v:AVal}(h:aop G ⟨.al l,H,n⟩ op=some (.call f args))(hc:A5 P W0 f args H v H')(k:Ag P W0 G m r ⟨.al ((d,v)::l),H',n⟩ K)(hg:Gr P W0 G:=by assumption)(hgd:Gok g l:=by first|exact gN|exact gS rfl)(hd:(Nat.blt d n&&Nat.blt d 4094)=true:=by rfl):Ag P W0 G m (⟨some d,g,op⟩::r) ⟨.al l,H,n⟩ K:=Ge hg hgd h hd hc k
theorem m2 {d0 d1:Nat}{o0 o1:AOp}{v0 v1:AVal}{g0 g1:Option (Nat×Bool)}{H0 H1 H2:Hz}(h0:aop G ⟨.al<|l,H0,n⟩ o0=some (.val v0 H1 []))(h1:aop G ⟨.al ((d0,v0)::l),H1,n⟩ o1=some (.val v1 H2 []))(k:Ag P W0 G m r ⟨.al ((d1,v1)::(d0,v0)::l),H2,n⟩ K)(hg:Gr P W0 G:=by assumption)(k0:Gok g0 (l):=by first|exact gN|exact gS rfl)(b0:(Nat.blt d0 n&&Nat.blt d0 4094)=true:=by rfl)(k1:Gok g1 ((d0,v0)::l):=by first|exact gN|exact gS rfl)(b1:(Nat.blt d1 n&&Nat.blt d1 4094)=true:=by rfl):Ag P W0 G m (⟨some d0,g0,o0⟩::⟨some d1,g1,o1⟩::r) ⟨.al l,H0,n⟩ K:=Ac hg k0 h0 b0 O<|Ac hg k1 h1 b1 O<|k
theorem m3 {d0 d1 d2:Nat}{o0 o1 o2:AOp}{v0 v1 v2:AVal}{g0 g1 g2:Option (Nat×Bool)}{H0 H1 H2 H3:Hz}(h0:aop G ⟨.al<|l,H0,n⟩ o0=some (.val v0 H1 []))(h1:aop G ⟨.al ((d0,v0)::l),H1,n⟩ o1=some (.val v1 H2 []))(h2:aop G ⟨.al ((d1,v1)::(d0,v0)::l),H2,n⟩ o2=some (.val v2 H3 []))(k:Ag P W0 G m r ⟨.al ((d2,v2)::(d1,v1)::(d0,v0)::l),H3,n⟩ K)(hg:Gr P W0 G:=by assumption)(k0:Gok g0 (l):=by first|exact gN|exact gS rfl)(b0:(Nat.blt d0 n&&Nat.blt d0 4094)=true:=by rfl)(k1:Gok g1 ((d0,v0)::l):=by first|exact gN|exact gS rfl)(b1:(Nat.blt d1 n&&Nat.blt d1 4094)=true:=by rfl)(k2:Gok g2 ((d1,v1)::(d0,v0)::l):=by first|exact gN|exact gS rfl)(b2:(Nat.blt d2 n&&Nat.blt d2 4094)=true:=by rfl):Ag P W0 G m (⟨some d0,g0,o0⟩::⟨some d1,g1,o1⟩::⟨some d2,g2,o2⟩::r) ⟨.al l,H0,n⟩ K:=Ac hg k0 h0 b0 O<|Ac hg k1 h1 b1 O<|Ac hg k2 h2 b2 O<|k
theorem m4 {d0 d1 d2 d3:Nat}{o0 o1 o2 o3:AOp}{v0 v1 v2 v3:AVal}{g0 g1 g2 g3:Option (Nat×Bool)}{H0 H1 H2 H3 H4:Hz}(h0:aop G ⟨.al<|l,H0,n⟩ o0=some (.val v0 H1 []))(h1:aop G ⟨.al ((d0,v0)::l),H1,n⟩ o1=some (.val v1 H2 []))(h2:aop G ⟨.al ((d1,v1)::(d0,v0)::l),H2,n⟩ o2=some (.val v2 H3 []))(h3:aop G ⟨.al ((d2,v2)::(d1,v1)::(d0,v0)::l),H3,n⟩ o3=some (.val v3 H4 []))(k:Ag P W0 G m r ⟨.al ((d3,v3)::(d2,v2)::(d1,v1)::(d0,v0)::l),H4,n⟩ K)(hg:Gr P W0 G:=by assumption)(k0:Gok g0 (l):=by first|exact gN|exact gS rfl)(b0:(Nat.blt d0 n&&Nat.blt d0 4094)=true:=by rfl)(k1:Gok g1 ((d0,v0)::l):=by first|exact gN|exact gS rfl)(b1:(Nat.blt d1 n&&Nat.blt d1 4094)=true:=by rfl)(k2:Gok g2 ((d1,v1)::(d0,v0)::l):=by first|exact gN|exact gS rfl)(b2:(Nat.blt d2 n&&Nat.blt d2 4094)=true:=by rfl)(k3:Gok g3 ((d2,v2)::(d1,v1)::(d0,v0)::l):=by first|exact gN|exact gS rfl)(b3:(Nat.blt d3 n&&Nat.blt d3 4094)=true:=by rfl):Ag P W0 G m (⟨some d0,g0,o0⟩::⟨some d1,g1,o1⟩::⟨some d2,g2,o2⟩::⟨some d3,g3,o3⟩::r) ⟨.al l,H0,n⟩ K:=Ac hg k0 h0 b0 O<|Ac hg k1 h1 b1 O<|Ac hg k2 h2 b2 O<|Ac hg k3 h3 b3 O<|k
theorem x1 {d0:Nat}{o0:AOp}{v0:AVal}{g0:Option (Nat×Bool)}{H0 H1:Hz}(h0:aop G ⟨.al<|l,H0,n⟩ o0=some (.val v0 H1 []))(k:K ⟨.al ((d0,v0)::l),H1,n⟩)(hg:Gr P W0 G:=by assumption)(k0:Gok g0 (l):=by first|exact gN|exact gS rfl)(b0:(Nat.blt d0 n&&Nat.blt d0 4094)=true:=by rfl):Ag P W0 G m (⟨some d0,g0,o0⟩::[]) ⟨.al l,H0,n⟩ K:=Ac hg k0 h0 b0 O<|Bg k
theorem x2 {d0 d1:Nat}{o0 o1:AOp}{v0 v1:AVal}{g0 g1:Option (Nat×Bool)}{H0 H1 H2:Hz}(h0:aop G ⟨.al<|l,H0,n⟩ o0=some (.val v0 H1 []))(h1:aop G ⟨.al ((d0,v0)::l),H1,n⟩ o1=some (.val v1 H2 []))(k:K ⟨.al ((d1,v1)::(d0,v0)::l),H2,n⟩)(hg:Gr P W0 G:=by assumption)(k0:Gok g0 (l):=by first|exact gN|exact gS rfl)(b0:(Nat.blt d0 n&&Nat.blt d0 4094)=true:=by rfl)(k1:Gok g1 ((d0,v0)::l):=by first|exact gN|exact gS rfl)(b1:(Nat.blt d1 n&&Nat.blt d1 4094)=true:=by rfl):Ag P W0 G m (⟨some d0,g0,o0⟩::⟨some d1,g1,o1⟩::[]) ⟨.al l,H0,n⟩ K:=Ac hg k0 h0 b0 O<|Ac hg k1 h1 b1 O<|Bg k
theorem x3 {d0 d1 d2:Nat}{o0 o1 o2:AOp}{v0 v1 v2:AVal}{g0 g1 g2:Option (Nat×Bool)}{H0 H1 H2 H3:Hz}(h0:aop G ⟨.al<|l,H0,n⟩ o0=some (.val v0 H1 []))(h1:aop G ⟨.al ((d0,v0)::l),H1,n⟩ o1=some (.val v1 H2 []))(h2:aop G ⟨.al ((d1,v1)::(d0,v0)::l),H2,n⟩ o2=some (.val v2 H3 []))(k:K ⟨.al ((d2,v2)::(d1,v1)::(d0,v0)::l),H3,n⟩)(hg:Gr P W0 G:=by assumption)(k0:Gok g0 (l):=by first|exact gN|exact gS rfl)(b0:(Nat.blt d0 n&&Nat.blt d0 4094)=true:=by rfl)(k1:Gok g1 ((d0,v0)::l):=by first|exact gN|exact gS rfl)(b1:(Nat.blt d1 n&&Nat.blt d1 4094)=true:=by rfl)(k2:Gok g2 ((d1,v1)::(d0,v0)::l):=by first|exact gN|exact gS rfl)(b2:(Nat.blt d2 n&&Nat.blt d2 4094)=true:=by rfl):Ag P W0 G m (⟨some d0,g0,o0⟩::⟨some d1,g1,o1⟩::⟨some d2,g2,o2⟩::[]) ⟨.al l,H0,n⟩ K:=Ac hg k0 h0 b0 O<|Ac hg k1 h1 b1 O<|Ac hg k2 h2 b2 O<|Bg k
theorem x4 {d0 d1 d2 d3:Nat}{o0 o1 o2 o3:AOp}{v0 v1 v2 v3:AVal}{g0 g1 g2 g3:Option (Nat×Bool)}{H0 H1 H2 H3 H4:Hz}(h0:aop G ⟨.al<|l,H0,n⟩ o0=some (.val v0 H1 []))(h1:aop G ⟨.al ((d0,v0)::l),H1,n⟩ o1=some (.val v1 H2 []))(h2:aop G ⟨.al ((d1,v1)::(d0,v0)::l),H2,n⟩ o2=some (.val v2 H3 []))(h3:aop G ⟨.al ((d2,v2)::(d1,v1)::(d0,v0)::l),H3,n⟩ o3=some (.val v3 H4 []))(k:K ⟨.al ((d3,v3)::(d2,v2)::(d1,v1)::(d0,v0)::l),H4,n⟩)(hg:Gr P W0 G:=by assumption)(k0:Gok g0 (l):=by first|exact gN|exact gS rfl)(b0:(Nat.blt d0 n&&Nat.blt d0 4094)=true:=by rfl)(k1:Gok g1 ((d0,v0)::l):=by first|exact gN|exact gS rfl)(b1:(Nat.blt d1 n&&Nat.blt d1 4094)=true:=by rfl)(k2:Gok g2 ((d1,v1)::(d0,v0)::l):=by first|exact gN|exact gS rfl)(b2:(Nat.blt d2 n&&Nat.blt d2 4094)=true:=by rfl)(k3:Gok g3 ((d2,v2)::(d1,v1)::(d0,v0)::l):=by first|exact gN|exact gS rfl)(b3:(Nat.blt d3 n&&Nat.blt d3 4094)=true:=by rfl):Ag P W0 G m (⟨some d0,g0,o0⟩::⟨some d1,g1,o1⟩::⟨some d2,g2,o2⟩::⟨some d3,g3,o3⟩::[]) ⟨.al l,H0,n⟩ K:=Ac hg k0 h0 b0 O<|Ac hg k1 h1 b1 O<|Ac hg k2 h2 b2 O<|Ac hg k3 h3 b3 O<|Bg k
theorem mn {s:St}(h:K s):Ag P W0 G m [] s K:=Bg h
end
section
variable {P : Program} {W0 : World} {G : List (Nat × AVal)} {m : Nat} {s : St} {K : Aj → St → Prop}
theorem sq {x y:ACode}(h:ExM P W0 m x s λe s'=>e.then s' (λs'=>ExM P W0 m y s' K) K):ExM P W0 m (.seq x y) s K:=ExM.seq h
theorem oM {x:List AOper}(h:Ag P W0 G m x s<|K .normal)(hg:Gr P W0 G:=by assumption):ExM P W0 m (.ops x) s K:=ExM.ops hg h
theorem sO {x:List AOper}{y:ACode}(h:Ag P W0 G m x s λs'=>Aj.then .normal s' (λs'=>ExM P W0 m y s' K) K)(hg:Gr P W0 G:=by assumption):ExM P W0 m (.seq (.ops x) y) s K:=ExM.seq<|ExM.ops hg h
theorem bM {id:Nat}{x:ACode}(h:ExM P W0 m x s<|fJ id K):ExM P W0 m (.block id x) s K:=ExM.block h
theorem kM (h:K .normal s):ExM P W0 m .skip s K:=ExM.skip h
theorem cT {c:AOpd}{x y:ACode}(hv:ev G s c=some (.bool true))(h:ExM P W0 m x s K)(hg:Gr P W0 G:=by assumption):ExM P W0 m (.cond c x y) s K:=ExM.condT hg hv h
theorem cF {c:AOpd}{x y:ACode}(hv:ev G s c=some (.bool false))(h:ExM P W0 m y s K)(hg:Gr P W0 G:=by assumption):ExM P W0 m (.cond c x y) s K:=ExM.condF hg hv h
end
section
variable {rs : List RV} {n : Nat} {v : AVal} {H' : Hz} {e : Aj} {s : St} {vs : List AVal}
theorem pS (he:(match e with|.exit _=>False|_=>True):=by trivial)(h1:If s rs=some vs:=by rfl)(h2:Cb vs=v:=by rfl)(h3:s.H=H':=by rfl):Ja rs n v H' e s:=A6 he h1 h2 h3
theorem pL (he:(match e with|.exit _=>False|_=>True):=by trivial)(h1:If s rs=some vs:=by rfl)(h2:B7 n (s.H.take n)=true:=by rfl)(h3:frz s.H n 100 (Cb vs)=some v:=by rfl)(h4:s.H.take n=H':=by rfl):Ja rs n v H' e s:=A4 he h1 h2 100 h3 h4
end
mutual
def noId (i : Nat) : AVal → Bool
  | .agg cs => O3 i cs
  | .tup cs => O3 i cs
  | .row _ es => O3 i es
  | .hsl _ id _ _ _ => !(Nat.beq id i)
  | .ptr id _ => !(Nat.beq id i)
  | .mref id => !(Nat.beq id i)
  | .optr id _ _ => !(Nat.beq id i)
  | .eptr e _ => noId i e
  | .fn _ a c => cond (O3 i a) (O3 i c) false
  | .iface _ x => noId i x
  | _ => true
def O3 (i : Nat) : List AVal → Bool
  | [] => true
  | v :: r => cond (noId i v) (O3 i r) false
end
def TR (i:Nat):HObj→Bool
 |.cells _ cs _=>O3 i cs|_=>true
section
variable {F : Nat → Prop} {bs : List Nat} {H : Hz} {w : World} {i : Nat} {o' : HObj}
theorem Nv {a b:Nat}(h:(!(aA a b))=true):a≠b:=λe=>by simp_all
theorem Ni {id:Nat}(h:id≠i):(H.set i o')[id]?=H[id]?:=bY<|Ne.symm h
mutual
theorem Rep.noId : ∀ (a : AVal) (v : Value), Rep F bs H w a v → noId i a = true → Rep F bs (H.set i o') w a v
  | .bool _, _, hr, _ | .int _ _, _, hr, _ | .str _, _, hr, _ | .nilSl, _, hr, _ | .emp, _, hr, _ | .nilPtr, _, hr, _ | .nilFn, _, hr, _ | .nilMp, _, hr, _ | .nilIf, _, hr, _ => PY
  | .agg cs, _, hr, hb => by
    simp only [Rep] at hr ⊢
    obtain ⟨vs, hv, hl⟩ := hr
    exact ⟨vs, hv, Ab.noId cs vs hl hb⟩
  | .tup cs, _, hr, hb => by
    simp only [Rep] at hr ⊢
    obtain ⟨vs, hv, hl⟩ := hr
    exact ⟨vs, hv, Ab.noId cs vs hl hb⟩
  | .row k es, _, hr, hb => by
    simp only [Rep] at hr ⊢
    obtain ⟨a, cap, vs, hv, hl, hk, hrow⟩ := hr
    exact ⟨a, cap, vs, hv, Ab.noId es vs hl hb, hk, hrow⟩
  | .hsl k id off len cap, _, hr, hb => by
    simp only [Rep] at hr ⊢
    have hne := Nv hb
    refine ⟨hr.1, ?_⟩
    unfold D1
    rw [Ni hne]
    exact hr.2
  | .ptr id off, _, hr, hb => by
    simp only [Rep] at hr ⊢
    have hne := Nv hb
    refine ⟨hr.1, ?_⟩
    unfold Fe
    rw [Ni hne]
    exact hr.2
  | .mref id, _, hr, hb => by
    simp only [Rep] at hr ⊢
    have hne := Nv hb
    refine ⟨hr.1, ?_⟩
    unfold Hg
    rw [Ni hne]
    exact hr.2
  | .optr id off len, _, hr, hb => by
    simp only [Rep] at hr ⊢
    have hne := Nv hb
    refine ⟨hr.1, ?_⟩
    unfold G8
    rw [Ni hne]
    exact hr.2
  | .eptr e off, _, hr, hb => by
    simp only [Rep] at hr ⊢
    obtain ⟨b, base, u, hv, he, h⟩ := hr
    exact ⟨b, base, u, hv, Rep.noId e u he hb, h⟩
  | .fn f first cap, _, hr, hb => by
    simp only [Rep] at hr ⊢
    obtain ⟨fs, cs, hv, h1, h2⟩ := hr
    simp only [Abs.noId] at hb
    cases hf : O3 i first with
    | false => rw [hf] at hb; cases hb
    | true => rw [hf] at hb; exact ⟨fs, cs, hv, Ab.noId first fs h1 hf, Ab.noId cap cs h2 hb⟩
  | .iface t x, _, hr, hb => by
    simp only [Rep] at hr ⊢
    obtain ⟨u, hv, hx⟩ := hr
    exact ⟨u, hv, Rep.noId x u hx hb⟩
theorem Ab.noId : ∀ (az : List AVal) (vs : List Value), Ab F bs H w az vs → O3 i az = true → Ab F bs (H.set i o') w az vs
  | [], _, hr, _ => bY125
  | a :: az, _, hr, hb => by
    simp only [Ab] at hr ⊢
    obtain ⟨u, us, hv, h1, h2⟩ := hr
    simp only [O3] at hb
    cases ha : Abs.noId i a with
    | false => rw [ha] at hb; cases hb
    | true => rw [ha] at hb; exact ⟨u, us, hv, Rep.noId a u h1 ha, Ab.noId az us h2 hb⟩
end
def DX (i:Nat)(H:Hz):Bool:=H.all<|TR i
theorem Ae.close {W0:World}(hh:Ae W0 F bs H w){T:TypeId}{cs:List AVal}(ho:H[i]?=some (.cells T cs true))(hT:bB T 1000000=true)(hn:DX i H=true):Ae W0 F bs (H.set i<|.cells T cs false) w:=by
 have hall:∀(j:Nat) (o:HObj),H[j]?=some o→TR i o=true:=λj o hj=>eB.1 hn o<|mGe hj;refine⟨by simp[hh.len],hh.base,hh.low,hh.nodup,hh.forb,λj o b hj hb=>?_⟩;by_cases hij:i=j;·subst hij;rw[List.getElem?_set_self (aC.1 ho).1]at hj;injection hj with hj;subst hj;obtain⟨vs,rest,fr,h1,h2,h3⟩:=hh.obj i _ b ho hb;obtain rfl:=h3 hT;rw[Jh hT]at h1;exact⟨vs,rest,(0,0),h1,Ab.noId cs vs h2<|hall i _ ho,λj _=>by simp⟩
 ·rw[bY hij]at hj;have h0:=hh.obj j o b hj hb;have hn:=hall j o hj;cases o with
  |dead=>trivial|iter s p=>exact h0|mp es=>exact h0
  |cells T' cs' op=>
   cases op with
   |false=>obtain⟨vs,rest,fr,h1,h2,h3⟩:=h0;exact⟨vs,rest,fr,h1,Ab.noId cs' vs h2 hn,h3⟩
   |true=>obtain⟨vs,rest,fr,h1,h2,h3⟩:=h0;exact⟨vs,rest,fr,h1,Ab.noId cs' vs h2 hn,h3⟩
def ClV (i n:Nat)(v2 v:AVal):Prop:=v2=v∧(noId i v=true∨∃k len cap,v= .hsl k i 0 len cap∧len*k=n)
structure Cl (m i:Nat)(s1 s2:St):Prop where
 le:m≤i
 n:s1.n=s2.n
 H:∃T cs,s2.H[i]?=some (.cells T cs true)∧Nat.blt T 1000000=true∧DX i s2.H=true∧s1.H=s2.H.set i (.cells T cs false)∧∀t v,s1.env.get t=some v→∃v2,s2.env.get t=some v2∧ClV i (N cs) v2 v
theorem RS.close {W0:World}{s1 s2:St}{a:Act}(hs:RS W0 F bs s2 a w){m:Nat}(hc:Cl m i s1 s2){bs0:List Nat}{H0:Hz}{w0:World}(he:Ext bs0 H0 w0 bs s2.H w)(hm:N H0=m):
 RS W0 F bs s1 a w∧Ext bs0 H0 w0 bs s1.H w:=by
 obtain⟨hle,hn,T,cs,ho,hT,hno,hH,henv⟩:=hc;refine⟨⟨by rw[hH];exact hs.heap.close ho hT hno,by rw[hs.size,hn],λt v hv=>?_⟩,⟨he.size,he.block,he.new,λj o hj=>?_⟩⟩;·obtain⟨v2,h1,rfl,h2⟩:=henv t v hv;have hr:=hs.env t v2 h1;grind[Rep.noId,Rep,D1]
 ·obtain⟨o',h1,h2⟩:=he.obj j o hj;grind
end
section
variable {P : Program} {W0 : World} {m i : Nat} {K : Aj → St → Prop}
theorem ExM.cl {a:ACode}{s1 s2:St}(hf:Cl m i s1 s2)(h:ExM P W0 m a s1 K):ExM P W0 m a s2 K:=λc hc F bs x w hs bs0 H0 w0 hm he Q hq=>by obtain⟨h1,h2⟩:=hs.close hf he hm;exact h c hc F bs x w h1 bs0 H0 w0 hm h2 Q hq
end
def Z7 (i n:Nat)(e:Env):List (Nat×AVal)→Prop
 | []=>True|p::r=>(∃v2,e.get p.1=some v2∧ClV i n v2 p.2)∧Z7 i n e r
theorem GF {i n:Nat}{e:Env}:∀{l:List (Nat×AVal)},Z7 i n e l→∀p∈l,∃v2,e.get p.1=some v2∧ClV i n v2 p.2
 | [],_,_,h=>Hq
 |q::r,ha,p,h=>by
  rcases eS.1 h with rfl|h;·exact ha.1
  ·exact GF ha.2 p h
theorem BP {t:Nat}{v:AVal}:∀{l:List (Nat×AVal)},lk t l=some v→(t,v)∈l
 | [],h=>Hq|(u,x)::l,h=>by simp only[lk]at h;cases hb:aA t u with|true=>rw[hb]at h;simp only[cond_true,iS]at h;have:=nBq hb;subst this;subst h;simp|false=>rw[hb]at h;exact fF _<|BP h
theorem clMk {m i:Nat}{l:List (Nat×AVal)}{H:Hz}{n:Nat}{s:St}{T:TypeId}{cs:List AVal}(hle:m≤i)(hn:n=s.n)(ho:s.H[i]?=some (.cells T cs true))(hT:bB T 1000000=true)(hno:DX i s.H=true)(hH:s.H.set i (.cells T cs false)=H)(h:Z7 i (N cs) s.env l):Cl m i ⟨.al l,H,n⟩ s:=⟨hle,hn,T,cs,ho,hT,hno,hH.symm,λt v hv=>GF h (t,v)<|BP hv⟩
theorem clH {i n t:Nat}{e:Env}{k len:Nat}{cap:Option Nat}{r:List (Nat×AVal)}(h:e.get t=some (.hsl k i 0 len cap))(hf:len*k=n)(q:Z7 i n e r):Z7 i n e ((t,.hsl k i 0 len cap)::r):=⟨⟨_,h,Z,.inr ⟨k,len,cap,Z,hf⟩⟩,q⟩
theorem clN {i n:Nat}{e:Env}:Z7 i n e []:=O
section
variable {F : Nat → Prop} {bs : List Nat} {H : Hz} {w : World} {i : Nat}
end
section
variable {P : Program} {W0 : World} {G : List (Nat × AVal)} {m n : Nat} {e : Env} {H : Hz}
end
section
variable {P : Program} {W0 : World} {m : Nat}
def Nh (P:Program)(W0:World)(m:Nat)(c:ACode)(K:Aj→St→Prop):Nat→St→Prop
 |0,_=>False|n+1,s=>ExM P W0 m c s λe s'=>e.then s' (Nh P W0 m c K n) K
theorem Nh.step {c:ACode}{K:Aj→St→Prop}{n:Nat}{s:St}(h:ExM P W0 m c s λe s'=>e.then s' (Nh P W0 m c K n) K):Nh P W0 m c K (n+1) s:=h
theorem ExM.unroll {c:ACode}{K:Aj→St→Prop}(n:Nat){s:St}(h:Nh P W0 m c K n s):ExM P W0 m (.loop c) s K:=λk hk=>by obtain⟨k',rfl,hk'⟩:=Gl hk;intro F bs a w hs bs0 H0 w0 hm he Q hq;refine Fa (σ:=Nat) (λi a' w'=>∃s' bs',Nh P W0 m c K i s'∧RS W0 F bs' s' a' w'∧Ext bs0 H0 w0 bs' s'.H w'∧a'.defers=a.defers) id (s:=n) ⟨s,bs,h,hs,he,rfl⟩ ?_;rintro i a1 w1 ⟨s1,bs1,hi,hrs1,hext1,hd1⟩;cases i with|zero=>exact hi.elim|succ i=>refine hi k' hk' F bs1 a1 w1 hrs1 bs0 H0 w0 hm hext1 _ λe s' bs' a' w' hkk hrs hext hd=>?_;cases e with|normal=>exact⟨i,⟨s',bs',hkk,hrs,hext,hd.trans hd1⟩,Nat.lt_succ_self i⟩|exit id=>exact hq (.exit id) s' bs' a' w' hkk hrs hext (hd.trans hd1)|ret=>exact hq .ret s' bs' a' w' hkk hrs hext<|hd.trans hd1
end
end Go.Abs
namespace Go.Abs
open Go.RowKit
structure Yu (s1 s2:St):Prop where
 n:s1.n=s2.n
 H:s1.H=s2.H
 env:∀t v,s1.env.get t=some v→s2.env.get t=some v
theorem RS.sub {W0:World}{F:Nat→Prop}{bs:List Nat}{s1 s2:St}{a:Act}{w:World}(hs:RS W0 F bs s2 a w)(h:Yu s1 s2):RS W0 F bs s1 a w:=⟨by rw[h.H];exact hs.heap,by rw[hs.size,h.n],λt u hu=>by rw[h.H];exact hs.env t u<|h.env t u hu⟩
section
variable {P : Program} {W0 : World} {m : Nat}
theorem ExM.loopS {c:ACode}{σ:Type}(st:σ→St)(Ix:σ→Prop)(μ:σ→Nat)(i:σ){s:St}{K:Aj→St→Prop}(h0:Yu (st i) s)(hI:Ix i)
 (round:∀i,Ix i→ExM P W0 m c (st i) λe s'=>e.then s' (λs'=>∃j,Ix j∧μ j<μ i∧Yu (st j) s') K):ExM P W0 m (.loop c) s K:=λk hk=>by
 obtain⟨k',rfl,hk'⟩:=Gl hk;intro F bs a w hs bs0 H0 w0 hm he Q hq;refine Fa (σ:=σ) (λi a' w'=>∃bs',Ix i∧RS W0 F bs' (st i) a' w'∧Ext bs0 H0 w0 bs' (st i).H w'∧a'.defers=a.defers) μ (s:=i) ?_ ?_;·exact⟨bs,hI,hs.sub h0,by rw[h0.H];exact he,rfl⟩
 ·rintro i a1 w1 ⟨bs1,hi,hrs1,hext1,hd1⟩;refine round i hi k' hk' F bs1 a1 w1 hrs1 bs0 H0 w0 hm hext1 _ λe s' bs' a' w' hkk hrs hext hd=>?_;cases e with
  |normal=>obtain⟨j,hj,hlt,hw⟩:=hkk;exact⟨j,⟨bs',hj,hrs.sub hw,by rw[hw.H];exact hext,hd.trans hd1⟩,hlt⟩
  |exit id=>exact hq (.exit id) s' bs' a' w' hkk hrs hext (hd.trans hd1)|ret=>exact hq .ret s' bs' a' w' hkk hrs hext<|hd.trans hd1
theorem ExM.sub {a:ACode}{s1 s2:St}{K:Aj→St→Prop}(hf:Yu s1 s2)(h:ExM P W0 m a s1 K):ExM P W0 m a s2 K:=λc hc F bs x w hs bs0 H0 w0 hm he Q hq=>h c hc F bs x w (hs.sub hf) bs0 H0 w0 hm (by rw[hf.H];exact he) Q hq
end
def P5 (e:Env):List (Nat×AVal)→Prop
 | []=>True|p::r=>e.get p.1=some p.2∧P5 e r
theorem AG {e:Env}:∀{l:List (Nat×AVal)},P5 e l→∀p∈l,e.get p.1=some p.2
 | [],_,_,h=>by cases h
 |q::r,ha,p,h=>by
  rcases eS.1 h with rfl|h;·exact ha.1
  ·exact AG ha.2 p h
theorem Ap {l:List (Nat×AVal)}{H:Hz}{n:Nat}{s:St}(hn:n=s.n)(hH:H=s.H)(h:P5 s.env l):Yu ⟨.al l,H,n⟩ s:=⟨hn,hH,λt v hv=>AG h (t,v)<|BP hv⟩
theorem sbC {t:Nat}{e:Env}{v:AVal}{r:List (Nat×AVal)}(h:e.get t=some v)(k:P5 e r):P5 e ((t,v)::r):=⟨h,k⟩
theorem sbN {e:Env}:P5 e []:=trivial
theorem sb4 {a b c d:Nat}{e:Env}{v x y z:AVal}{r:List (Nat×AVal)}(h:e.get a=some v)(h2:e.get b=some x)(h3:e.get c=some y)(h4:e.get d=some z)(k:P5 e r):P5 e ((a,v)::(b,x)::(c,y)::(d,z)::r):=⟨h,h2,h3,h4,k⟩
end Go.Abs
namespace Go.Abs
open Go.RowKit
def I8 (P:Program)(W0:World)(f:FuncId)(args:List AVal)(H:Hz)(Q:AVal→Hz→Prop):Prop:=
 E1 P f∧∀(F:Nat→Prop) (bs:List Nat) (w:World) (cargs:List Value),Ae W0 F bs H w→Ab F bs H w args cargs→
  Calls P f cargs.toArray w λe w'=>∃v H' cv bs',Q v H'∧e= .returned cv∧Rep F bs' H' w' v cv∧Ae W0 F bs' H' w'∧Ext bs H w bs' H' w'
section
variable {P : Program} {W0 : World} {G : List (Nat × AVal)}
theorem I8.of {f:FuncId}{args:List AVal}{v:AVal}{H H':Hz}(h:A5 P W0 f args H v H'):I8 P W0 f args H (λx X=>x=v∧X=H'):=by refine⟨h.1,λF bs w cargs hh hr=>eU (h.2 F bs w cargs hh hr) λe w' he=>?_⟩;grind
theorem I8.mono {f:FuncId}{args:List AVal}{H:Hz}{Q Q':AVal→Hz→Prop}(h:I8 P W0 f args H Q)(hq:∀v X,Q v X→Q' v X):I8 P W0 f args H Q':=⟨h.1,λF bs w cargs hh hr=>eU (h.2 F bs w cargs hh hr) λ_ _ ⟨v,X,cv,bs',k1,k2⟩=>⟨v,X,cv,bs',hq v X k1,k2⟩⟩
theorem I8.ofE {f:FuncId}{args:List AVal}{Q:AVal→Prop}(h:Aw P W0 f args Q)(ha:A8 0 args=true)(hq:∀v,Q v→blw 0 v=true)(H:Hz):I8 P W0 f args H (λv X=>Q v∧X=H):=⟨h.1,λ_ bs _ _ hh hr=>eU (h.at ha hq hh hr) λ_ _ ⟨v,cv,k1,k2,k3,k4,k5⟩=>⟨v,H,cv,bs,⟨k1,rfl⟩,k2,k3,k4,k5⟩⟩
theorem Aw.ofQ {f:FuncId}{args:List AVal}{Q:AVal→Prop}(h:I8 P W0 f args []<|λv X=>Q v∧X=[]):Aw P W0 f args Q:=by refine⟨h.1,λF w cargs hh hr=>eU (h.2 F [] w cargs hh hr) λe w' he=>?_⟩;obtain⟨v,X,cv,bs',⟨k1,rfl⟩,rfl,h1,h2,h3⟩:=he;have hb:bs'=[]:=eW.1 (by simpa using h2.len);grind
theorem I8.of_fnM {f:Nat}{x:AFn}(hf:Gs P f=some x){args:List AVal}{H:Hz}{Q:AVal→Hz→Prop}(hl:N args≤4094){n:Nat}(hn:N args+(x.n-N args)=n)
 (h:ExM P W0 (N H) x.code ⟨.al<|Ec 0 args,H,n⟩ λe s=>∃v H',Q v H'∧Ja x.res (N H) v H' e s):I8 P W0 f args H Q:=by
 obtain⟨fn,c,h1,h2,h3,h4,h5,h6⟩:=Kt hf;refine⟨⟨fn,c,h1,h2,h5⟩,λF bs w cargs hh hr=>?_⟩;have hrs:=F8 hh hr hl fn.ntmps;have hrs':RS W0 F bs ⟨.al<|Ec 0 args,H,n⟩ {tmps:=cargs.toArray++fE (fn.ntmps-cargs.toArray.size) undef,defers:=[]} w:=
  ⟨hrs.heap,EQ,λt u hu=>hrs.env t u (by
   rw[Df args 0 .leaf t Y];have hu:lk t (Ec 0 args)=some u:=hu;rw[I5]at hu
   grind)⟩
 refine calls_of_wp h1 h2<|h c h3 F bs _ w hrs' bs H w Z (eA _ _ _) _ λe s' bs' a' w' hk hrs hext hd=>?_;obtain⟨v,H',hQ,hne,vs,hvs,hlv⟩:=hk;obtain⟨cv,r1,r2⟩:=Es hrs<|Lo h4 hvs;obtain⟨bs'',r3,r4,r5⟩:=Js hrs.heap hext r2 hlv;have fin:bodyPost P fn (λe w'=>∃v H' cv bs',Q v H'∧e= .returned cv∧Rep F bs' H' w' v cv∧Ae W0 F bs' H' w'∧Ext bs H w bs' H' w') .ret a' w':=⟨hd,cv,r1,v,H',cv,bs'',hQ,rfl,r3,r4,r5⟩;cases e with|normal=>exact fin|ret=>exact fin|exit id=>exact hne.elim
variable {m : Nat} {l : List (Nat × AVal)} {H H' : Hz} {n : Nat} {K : St → Prop} {r : List AOper}
theorem IH {ops:Array Oper}{i:Nat}{d:Option Nat}{g:Option (Nat×Bool)}{op:AOp}{r:List AOper}(hco:Bh P ops (ops.toList.drop i)=some (⟨d,g,op⟩::r))(hgd:Gok g l):
 ∃x,ops[i]?=some x∧x.dst=d∧Au P x.op=some op∧D9 ops ⟨.al l,H,n⟩ x.guard=some true∧Bh P ops (ops.toList.drop<|i+1)=some r:=by
 obtain⟨x,xs,hdr,hx,hxs⟩:=F3 hco;have hi:ops[i]?=some x:=by have h0:=congrArg (λl=>l[0]?) hdr;grind
 have hr:ops.toList.drop (i+1)=xs:=by have:=congrArg (List.drop 1) hdr;grind[fM]
 have hdst:x.dst=d:=(D8 hx).symm;have hop:∃o',Au P x.op=some o'∧o'=op:=by grind[B5]
 obtain⟨o',ho',rfl⟩:=hop;refine⟨x,hi,hdst,ho',?_,by grind⟩;unfold B5 at hx;cases hgx:Dm ops x.guard with
 |none=>rw[hgx]at hx;cases hx
 |some gx=>
  rw[hgx]at hx;simp only[ho']at hx;injection hx with hx;injection hx with _ hx _;subst hx;cases hxg:x.guard with
  |none=>rfl
  |some gw=>
   obtain⟨j,want⟩:=gw;rw[hxg]at hgx;simp only[Dm]at hgx;cases hd':(ops[j]?).bind (·.dst)with
   |none=>rw[hd']at hgx;cases hgx
   |some d'=>rw[hd']at hgx;simp only[iS]at hgx;subst hgx;have hl:(Env.al l).get d'=some (.bool want):=hgd;simp only[D9,hd',hl];cases want<;>rfl
theorem Ln (hg:Gr P W0 G){g:Option (Nat×Bool)}(hgd:Gok g l){d:Nat}{op:AOp}{f:Nat}{args:List AVal}{Q:AVal→Hz→Prop}(h:aop G ⟨.al l,H,n⟩ op=some (.call f args))(hd:(bB d n&&bB d 4094)=true)(hc:I8 P W0 f args H Q)
 (k:∀v X,Q v X→Ag P W0 G m r ⟨.al ((d,v)::l),X,n⟩ K):Ag P W0 G m (⟨some d,g,op⟩::r) ⟨.al l,H,n⟩ K:=λops i hco F bs a w hs bs0 H0 w0 hm he Q0 hq0=>by
 obtain⟨x,hi,hdst,ho',hg',hxs⟩:=IH (H:=H) (n:=n) hco hgd;simp only[lCo,fK,wpOps,hi];rw[Pe hs hg'];simp only[if_true];refine .inl ?_;have hok:=Ut (P:=P) hg.g hs ho' h;obtain⟨cargs,h1,h2⟩:=hok hc.1;unfold Oper.wp;rw[h1,Oper.upon_enter];refine eU (hc.2 F bs w cargs hs.heap h2) λe w' he'=>?_;obtain⟨v,X,cv,bs',k1,rfl,k3,k4,k5⟩:=he';obtain⟨s',hK,hrs,hH⟩:=hs.put (dst:=x.dst) (K:=λs'=>s'=⟨.al ((d,v)::l),X,n⟩) k3 k4 k5 (by rw[hdst];exact⟨hd,rfl⟩);subst hK;have hput:∀(dst:Option Tmp) (v:Value),(a.put dst v).defers=a.defers:=λdst v=>AA;exact k v X k1 ops (i+1) hxs F bs' _ w' hrs bs0 H0 w0 hm (he.trans k5) Q0 λs2 bs2 a2 w2 e1 e2 e3 e4=>hq0 s2 bs2 a2 w2 e1 e2 e3<|e4.trans<|hput _ _
theorem ExM.loopJ {c:ACode}{σ τ:Type}(st:σ→St)(Ix:σ→Prop)(μ:σ→Nat)(i:σ)(id:Nat)(po:τ→St)(Jx:τ→Prop){s:St}{K:Aj→St→Prop}(h0:Yu (st i) s)(hI:Ix i)
 (round:∀i,Ix i→ExM P W0 m c (st i) λe s'=>e.then s' (λs'=>∃j,Ix j∧μ j<μ i∧Yu (st j) s')<|λe s'=>(e= .exit id∧∃j,Jx j∧Yu (po j) s')∨K e s')
 (rest:∀j s',Jx j→Yu (po j) s'→K (.exit id) s'):ExM P W0 m (.loop c) s K:=by
 refine ExM.loopS st Ix μ i h0 hI λi hi=>(round i hi).mono λe s' h=>?_;grind
theorem ExM.seqJ {x y:ACode}{τ:Type}(po:τ→St)(Jx:τ→Prop){s:St}{K:Aj→St→Prop}
 (h:ExM P W0 m x s λe s'=>e.then s' (λs'=>∃j,Jx j∧Yu (po j) s') K) (rest:∀j,Jx j→ExM P W0 m y (po j) K):ExM P W0 m (.seq x y) s K:=by
 refine ExM.seq<|h.mono λe s' h=>?_;grind[sub]
end
section
variable {P : Program} {W0 : World} {G : List (Nat × AVal)} {l : List (Nat × AVal)} {H H' : Hz} {n : Nat} {K : St → Prop} {r : List AOper}
theorem lV {d:Nat}{op:AOp}{v:AVal}(h:aop G ⟨.al l,H,n⟩ op=some (.val v H' []))(k:Az P W0 G r ⟨.al ((d,v)::l),H',n⟩ K)(hd:(Nat.blt d n&&Nat.blt d 4094)=true:=by rfl):Az P W0 G (⟨some d,none,op⟩::r) ⟨.al l,H,n⟩ K:=Aa h hd trivial k
theorem lS {d:Nat}{op:AOp}{v:AVal}{side:List (Int×Int)}(h:aop G ⟨.al l,H,n⟩ op=some (.val v H' side))(k:Az P W0 G r ⟨.al ((d,v)::l),H',n⟩ K)(hd:(Nat.blt d n&&Nat.blt d 4094)=true:=by rfl)(hs:Ah side:=by first|exact trivial|decide|(simp only[Bl,Di,Ah,and_true,lCo,lNi,lAp];omega)):Az P W0 G (⟨some d,none,op⟩::r) ⟨.al l,H,n⟩ K:=Aa h hd hs k
theorem lC {d:Nat}{op:AOp}{f:Nat}{args:List AVal}{v:AVal}(h:aop G ⟨.al l,H,n⟩ op=some (.call f args))(hc:A5 P W0 f args H v H')(k:Az P W0 G r ⟨.al ((d,v)::l),H',n⟩ K)(hd:(Nat.blt d n&&Nat.blt d 4094)=true:=by rfl):Az P W0 G (⟨some d,none,op⟩::r) ⟨.al l,H,n⟩ K:=Gz h hd hc k
theorem ln (h:K ⟨.al l,H,n⟩):Az P W0 G [] ⟨.al l,H,n⟩ K:=h
theorem qV {d:Nat}{op:AOp}{v:AVal}(h:aop G ⟨.al l,H,n⟩ op=some (.val v H []))(k:By P W0 G r ⟨.al ((d,v)::l),H,n⟩ K)(hd:(Nat.blt d n&&Nat.blt d 4094)=true:=by rfl):By P W0 G (⟨some d,none,op⟩::r) ⟨.al l,H,n⟩ K:=Ao h hd trivial k
end
section
variable {P : Program} {W0 : World} {G : List (Nat × AVal)} {s : St} {K : Aj → St → Prop}
theorem sa {x y:ACode}(h:ExA P W0 x s λe s'=>e.then s' (λs'=>ExA P W0 y s' K) K):ExA P W0 (.seq x y) s K:=ExA.seq h
theorem oA {x:List AOper}(h:Az P W0 G x s<|K .normal)(hg:Gr P W0 G:=by assumption):ExA P W0 (.ops x) s K:=ExA.ops hg h
theorem sA {x:List AOper}{y:ACode}(h:Az P W0 G x s λs'=>Aj.then .normal s' (λs'=>ExA P W0 y s' K) K)(hg:Gr P W0 G:=by assumption):ExA P W0 (.seq (.ops x) y) s K:=ExA.seq<|ExA.ops hg h
theorem bA {id:Nat}{x:ACode}(h:ExA P W0 x s<|fJ id K):ExA P W0 (.block id x) s K:=ExA.block h
theorem kA (h:K .normal s):ExA P W0 .skip s K:=ExA.skip h
theorem aT {c:AOpd}{x y:ACode}(hv:ev G s c=some (.bool true))(h:ExA P W0 x s K)(hg:Gr P W0 G:=by assumption):ExA P W0 (.cond c x y) s K:=ExA.condT hg hv h
theorem aF {c:AOpd}{x y:ACode}(hv:ev G s c=some (.bool false))(h:ExA P W0 y s K)(hg:Gr P W0 G:=by assumption):ExA P W0 (.cond c x y) s K:=ExA.condF hg hv h
end
def tame :AOp→Bool
 |.move ..|.pick ..|.load ..|.nilCheck ..|.conv ..|.fieldAddr ..|.extract ..|.mkfn ..|.len ..|.iface ..|.field ..|.build ..|.mm ..|.tas ..|.cut0 ..|.un .not _=>true|_=>false
section
variable {P : Program} {W0 : World} {G : List (Nat × AVal)} {m : Nat} {l : List (Nat × AVal)} {H H' : Hz} {n : Nat} {K : St → Prop} {r : List AOper} {g : Option (Nat × Bool)} {d : Nat} {op : AOp} {side : List (Int × Int)}
theorem wV {v:AVal}(_:tame op=true)(h:aop G ⟨.al l,H,n⟩ op=some (.val v H []))(k:Ag P W0 G m r ⟨.al ((d,v)::l),H,n⟩ K)(hg:Gr P W0 G:=by assumption)(hgd:Gok g l:=by first|exact gN|with_unfolding_all exact gS rfl)(hd:(Nat.blt d n&&Nat.blt d 4094)=true:=by with_unfolding_all rfl):Ag P W0 G m (⟨some d,g,op⟩::r) ⟨.al l,H,n⟩ K:=Ac hg hgd h hd O k
theorem wA {T:TypeId}{zs:List AVal}(k:Ag P W0 G m r ⟨.al ((d,.ptr (N H) 0)::l),H++[.cells T zs false],n⟩ K)(hg:Gr P W0 G:=by assumption)(hgd:Gok g l:=by first|exact gN|with_unfolding_all exact gS rfl)(hd:(Nat.blt d n&&Nat.blt d 4094)=true:=by with_unfolding_all rfl):Ag P W0 G m (⟨some d,g,.alloc T zs⟩::r) ⟨.al l,H,n⟩ K:=Ac (side:=[]) hg hgd Jm hd O k
theorem wB {T:TypeId}{x:AOpd}{v:AVal}(h:ev G ⟨.al l,H,n⟩ x=some v)(k:Ag P W0 G m r ⟨.al ((d,.ptr (N H) 0)::l),H++[.cells T v.cells false],n⟩ K)(hg:Gr P W0 G:=by assumption)(hgd:Gok g l:=by first|exact gN|with_unfolding_all exact gS rfl)(hd:(Nat.blt d n&&Nat.blt d 4094)=true:=by with_unfolding_all rfl):Ag P W0 G m (⟨some d,g,.box T x⟩::r) ⟨.al l,H,n⟩ K:=Ac (side:=[]) hg hgd (by simp only[aop,h]) hd O k
theorem wT {v:Bz}(h:aop G ⟨.al l,H,n⟩ op=some (.val (.str v) H side))(k:Ag P W0 G m r ⟨.al ((d,.str v)::l),H,n⟩ K)(hg:Gr P W0 G:=by assumption)(hgd:Gok g l:=by first|exact gN|with_unfolding_all exact gS rfl)(hd:(Nat.blt d n&&Nat.blt d 4094)=true:=by with_unfolding_all rfl)(hs:Ah side:=by first|exact trivial|decide|(simp only[Bl,Ah,and_true,lCo,lNi,lAp];omega)):Ag P W0 G m (⟨some d,g,op⟩::r) ⟨.al l,H,n⟩ K:=Ac hg hgd h hd hs k
theorem wK (h:aop G ⟨.al l,H,n⟩ op=some (.skip H'))(k:Ag P W0 G m r ⟨.al l,H',n⟩ K)(hg:Gr P W0 G:=by assumption)(hgd:Gok g l:=by first|exact gN|exact gS rfl):Ag P W0 G m (⟨none,g,op⟩::r) ⟨.al l,H,n⟩ K:=Ai hg hgd h k
theorem wt {b:Bool}(h:aop G ⟨.al l,H,n⟩ op=some (.val (.bool b) H []))(k:Ag P W0 G m r ⟨.al ((d,.bool true)::l),H,n⟩ K)(hb:b=true:=by rfl)(hg:Gr P W0 G:=by assumption)(hgd:Gok g l:=by first|exact gN|with_unfolding_all exact gS rfl)(hd:(Nat.blt d n&&Nat.blt d 4094)=true:=by with_unfolding_all rfl):Ag P W0 G m (⟨some d,g,op⟩::r) ⟨.al l,H,n⟩ K:=mBk hg hgd h hd hb k
theorem wf {b:Bool}(h:aop G ⟨.al l,H,n⟩ op=some (.val (.bool b) H []))(k:Ag P W0 G m r ⟨.al ((d,.bool false)::l),H,n⟩ K)(hb:b=false:=by rfl)(hg:Gr P W0 G:=by assumption)(hgd:Gok g l:=by first|exact gN|with_unfolding_all exact gS rfl)(hd:(Nat.blt d n&&Nat.blt d 4094)=true:=by with_unfolding_all rfl):Ag P W0 G m (⟨some d,g,op⟩::r) ⟨.al l,H,n⟩ K:=mBk hg hgd h hd hb k
end
theorem A5.fnW {P:Program}{W0:World}{f:Nat}{code:ACode}{res:List RV}{n0:Nat}(n m:Nat)(hf:Gs P f=some ⟨code,res,n0⟩){args:List AVal}{H:Hz}{v:AVal}{H':Hz}(h:ExM P W0 m code ⟨.al<|Ec 0 args,H,n⟩<|Ja res m v H')(hl:N args≤4094:=by simp)(hn:N args+(n0-N args)=n:=by rfl)(hm:N H=m:=by rfl):A5 P W0 f args H v H':=by subst hm;exact A5.of_fnM hf hl hn h
section
variable {P : Program} {W0 : World} {G : List (Nat × AVal)} {m : Nat} {s : St} {K : Aj → St → Prop}
def sK (P:Program)(W0:World)(m:Nat)(y:ACode)(K:Aj→St→Prop)(e:Aj)(s:St):Prop:=e.then s (λs'=>ExM P W0 m y s' K) K
theorem kS {x y:ACode}(h:ExM P W0 m x s<|sK P W0 m y K):ExM P W0 m (.seq x y) s K:=ExM.seq h
theorem kO {x:List AOper}(h:Ag P W0 G m x s<|K .normal)(hg:Gr P W0 G:=by assumption):ExM P W0 m (.ops x) s K:=ExM.ops hg h
theorem kN {y:ACode}(h:ExM P W0 m y s K):sK P W0 m y K .normal s:=h
theorem kE {y:ACode}{i:Nat}(h:K (.exit i) s):sK P W0 m y K (.exit i) s:=h
theorem kR {y:ACode}(h:K .ret s):sK P W0 m y K .ret s:=h
def iK (id:Nat)(K:Aj→St→Prop)(e:Aj)(s:St):Prop:=fJ id K e s
theorem kB {id:Nat}{x:ACode}(h:ExM P W0 m x s<|iK id K):ExM P W0 m (.block id x) s K:=ExM.block h
theorem kI {id:Nat}(h:K .normal s):iK id K .normal s:=h
theorem kJ {id j:Nat}(h:K .normal s)(hj:Nat.beq j id=true:=by rfl):iK id K (.exit j) s:=by show(bif aA j id then K .normal s else K (.exit j) s);grind
theorem kX {id j:Nat}(h:K (.exit j) s)(hj:Nat.beq j id=false:=by rfl):iK id K (.exit j) s:=by show(bif aA j id then K .normal s else K (.exit j) s);grind
theorem kQ {id:Nat}(h:K .ret s):iK id K .ret s:=h
end
section
variable {P : Program} {W0 : World} {G : List (Nat × AVal)} {m : Nat} {l : List (Nat × AVal)} {H H' : Hz} {n : Nat} {K : St → Prop} {r : List AOper} {g : Option (Nat × Bool)} {d : Nat} {op : AOp} {side : List (Int × Int)} {x y : AOpd} {o : BinOp} {dd : Option TypeDesc} {kk : Nat} {ag : Bool}
theorem vMv {v:AVal}(h:aop G ⟨.al l,H,n⟩ (.move x)=some (.val v H []))(k:Ag P W0 G m r ⟨.al ((d,v)::l),H,n⟩ K)(hg:Gr P W0 G:=by assumption)(hgd:Gok g l:=by first|exact gN|with_unfolding_all exact gS rfl)(hd:(Nat.blt d n&&Nat.blt d 4094)=true:=by with_unfolding_all rfl):Ag P W0 G m (⟨some d,g,.move x⟩::r) ⟨.al l,H,n⟩ K:=Ac hg hgd h hd O k
theorem vFA {v:AVal}(h:aop G ⟨.al l,H,n⟩ (.fieldAddr kk x)=some (.val v H []))(k:Ag P W0 G m r ⟨.al ((d,v)::l),H,n⟩ K)(hg:Gr P W0 G:=by assumption)(hgd:Gok g l:=by first|exact gN|with_unfolding_all exact gS rfl)(hd:(Nat.blt d n&&Nat.blt d 4094)=true:=by with_unfolding_all rfl):Ag P W0 G m (⟨some d,g,.fieldAddr kk x⟩::r) ⟨.al l,H,n⟩ K:=Ac hg hgd h hd O k
theorem vLd {v:AVal}(h:aop G ⟨.al l,H,n⟩ (.load kk ag x)=some (.val v H []))(k:Ag P W0 G m r ⟨.al ((d,v)::l),H,n⟩ K)(hg:Gr P W0 G:=by assumption)(hgd:Gok g l:=by first|exact gN|with_unfolding_all exact gS rfl)(hd:(Nat.blt d n&&Nat.blt d 4094)=true:=by with_unfolding_all rfl):Ag P W0 G m (⟨some d,g,.load kk ag x⟩::r) ⟨.al l,H,n⟩ K:=Ac hg hgd h hd O k
theorem vBt {b:Bool}(h:aop G ⟨.al l,H,n⟩ (.bin o dd x y)=some (.val (.bool b) H []))(hb:b=true)(k:Ag P W0 G m r ⟨.al ((d,.bool true)::l),H,n⟩ K)(hg:Gr P W0 G:=by assumption)(hgd:Gok g l:=by first|exact gN|with_unfolding_all exact gS rfl)(hd:(Nat.blt d n&&Nat.blt d 4094)=true:=by with_unfolding_all rfl):Ag P W0 G m (⟨some d,g,.bin o dd x y⟩::r) ⟨.al l,H,n⟩ K:=mBk hg hgd h hd hb k
theorem vBf {b:Bool}(h:aop G ⟨.al l,H,n⟩ (.bin o dd x y)=some (.val (.bool b) H []))(hb:b=false)(k:Ag P W0 G m r ⟨.al ((d,.bool false)::l),H,n⟩ K)(hg:Gr P W0 G:=by assumption)(hgd:Gok g l:=by first|exact gN|with_unfolding_all exact gS rfl)(hd:(Nat.blt d n&&Nat.blt d 4094)=true:=by with_unfolding_all rfl):Ag P W0 G m (⟨some d,g,.bin o dd x y⟩::r) ⟨.al l,H,n⟩ K:=mBk hg hgd h hd hb k
theorem vAd {z:Int}(h:aop G ⟨.al l,H,n⟩ (.bin .add dd x y)=some (.val (.int .i64<|IntKind.i64.wrap z) H side))(k:Ag P W0 G m r ⟨.al ((d,.int .i64 z)::l),H,n⟩ K)(hg:Gr P W0 G:=by assumption)(hgd:Gok g l:=by first|exact gN|with_unfolding_all exact gS rfl)(hd:(Nat.blt d n&&Nat.blt d 4094)=true:=by with_unfolding_all rfl)(hs:Ah side:=by first|with_unfolding_all exact trivial|with_unfolding_all decide|(with_unfolding_all simp only[Bl,Ah,and_true,C0,List.length_map,lCo,lNi,lAp];omega))(h1:-9223372036854775808≤z:=by omega)(h2:z≤9223372036854775807:=by omega):Ag P W0 G m (⟨some d,g,.bin .add dd x y⟩::r) ⟨.al l,H,n⟩ K:=mKv hg hgd h hd hs (Bw h1 h2 Z) k
theorem vSu {z:Int}(h:aop G ⟨.al l,H,n⟩ (.bin .sub dd x y)=some (.val (.int .i64<|IntKind.i64.wrap z) H side))(k:Ag P W0 G m r ⟨.al ((d,.int .i64 z)::l),H,n⟩ K)(hg:Gr P W0 G:=by assumption)(hgd:Gok g l:=by first|exact gN|with_unfolding_all exact gS rfl)(hd:(Nat.blt d n&&Nat.blt d 4094)=true:=by with_unfolding_all rfl)(hs:Ah side:=by first|with_unfolding_all exact trivial|with_unfolding_all decide|(with_unfolding_all simp only[Bl,Ah,and_true,C0,List.length_map,lCo,lNi,lAp];omega))(h1:-9223372036854775808≤z:=by omega)(h2:z≤9223372036854775807:=by omega):Ag P W0 G m (⟨some d,g,.bin .sub dd x y⟩::r) ⟨.al l,H,n⟩ K:=mKv hg hgd h hd hs (Bw h1 h2 Z) k
theorem vAs {v:Bz}(h:aop G ⟨.al l,H,n⟩ (.bin .add dd x y)=some (.val (.str v) H side))(k:Ag P W0 G m r ⟨.al ((d,.str v)::l),H,n⟩ K)(hg:Gr P W0 G:=by assumption)(hgd:Gok g l:=by first|exact gN|with_unfolding_all exact gS rfl)(hd:(Nat.blt d n&&Nat.blt d 4094)=true:=by with_unfolding_all rfl)(hs:Ah side:=by first|with_unfolding_all exact trivial|with_unfolding_all decide|(with_unfolding_all simp only[Bl,Ah,and_true,C0,List.length_map,lCo,lNi,lAp];omega)):Ag P W0 G m (⟨some d,g,.bin .add dd x y⟩::r) ⟨.al l,H,n⟩ K:=Ac hg hgd h hd hs k
theorem vCl {fx:AOpd}{as_:List AOpd}{f:Nat}{args:List AVal}{v:AVal}(h:aop G ⟨.al l,H,n⟩ (.call fx as_)=some (.call f args))(hc:A5 P W0 f args H v H')(k:Ag P W0 G m r ⟨.al ((d,v)::l),H',n⟩ K)(hg:Gr P W0 G:=by assumption)(hgd:Gok g l:=by first|exact gN|with_unfolding_all exact gS rfl)(hd:(Nat.blt d n&&Nat.blt d 4094)=true:=by with_unfolding_all rfl):Ag P W0 G m (⟨some d,g,.call fx as_⟩::r) ⟨.al l,H,n⟩ K:=Ge hg hgd h hd hc k
end
section
variable {P : Program} {W0 : World} {G : List (Nat × AVal)} {m : Nat}
def loK {σ τ:Type}(m:Nat)(st:σ→St)(Ix:σ→Prop)(μ:σ→Nat)(i:σ)(id:Nat)(po:τ→St)(Jx:τ→Prop)(K:Aj→St→Prop)(e:Aj)(s:St):Prop:=e.then s (λs'=>∃j,Ix j∧μ j<μ i∧Fz m (st j) s') λe s'=>(e= .exit id∧∃j,Jx j∧Fz m (po j) s')∨(e≠ .exit id∧K e s')
section
variable {σ τ : Type} {st : σ → St} {Ix : σ → Prop} {μ : σ → Nat} {i : σ} {id : Nat} {po : τ → St} {Jx : τ → Prop} {K : Aj → St → Prop} {s : St}
theorem loN (j:σ)(hI:Ix j)(hm:μ j<μ i)(hf:Fz m (st j) s):loK m st Ix μ i id po Jx K .normal s:=⟨j,hI,hm,hf⟩
theorem loE (j:τ)(hJ:Jx j)(hf:Fz m (po j) s):loK m st Ix μ i id po Jx K (.exit id) s:=.inl ⟨Z,j,hJ,hf⟩
theorem loR (h:K .ret s):loK m st Ix μ i id po Jx K .ret s:=.inr ⟨(λe=>by cases e),h⟩
end
theorem vGT {l:List (Nat×AVal)}{H:Hz}{n:Nat}{K:St→Prop}{r:List AOper}{d t:Nat}{w:Bool}{op:AOp}(h:lk t l=some (.tup []))(k:Ag P W0 G m r ⟨.al ((d,.tup [])::l),H,n⟩ K)(hg:Gr P W0 G:=by assumption)(hd:(Nat.blt d n&&Nat.blt d 4094)=true:=by with_unfolding_all rfl):Ag P W0 G m (⟨some d,some (t,w),op⟩::r) ⟨.al l,H,n⟩ K:=mGT hg h hd k
end
structure Wrp (B:Prop):Prop where
 x:B
theorem Wm {A B:Prop}(k:B)(h:Wrp B→A:=by
 intro wk
 repeat (first
  |with_reducible refine vMv Cc ?_|with_reducible refine vFA Cc ?_|with_reducible refine vLd Cc ?_|with_reducible refine mn ?_|with_reducible refine kS ?_|with_reducible refine kO ?_|with_reducible refine kN ?_|with_reducible refine kB ?_|with_reducible refine ExM.scope ?_|with_reducible refine ExM.mark ?_|with_reducible refine kM ?_|with_reducible refine kE ?_|with_reducible refine kR ?_|with_reducible refine loR ?_|with_reducible refine kI ?_|with_reducible refine kJ ?_|with_reducible refine kX ?_|with_reducible refine kQ ?_|with_reducible refine ExM.exit ?_|with_reducible refine ExM.ret ?_|with_reducible refine cT Cc ?_|with_reducible refine cF Cc ?_|with_reducible refine vBt Cc Cc ?_|with_reducible refine vBf Cc Cc ?_|with_reducible refine vBt Cc bY135 ?_|with_reducible refine vBf Cc bY106 ?_|with_reducible refine vCl Cc (by with_unfolding_all apply_assumption-exfalso) ?_|with_reducible refine vAd Cc ?_|with_reducible refine vSu Cc ?_|with_reducible refine vAs Cc ?_|with_reducible refine wA ?_|with_reducible refine wB Cc ?_|refine mG ?_|with_reducible refine vGT Cc ?_|refine wV rfl rfl ?_|refine wt rfl ?_|refine wf rfl ?_|refine wT rfl ?_|refine wK rfl ?_)
 exact wk.x):A:=h ⟨k⟩
theorem We {A:Prop}(h:A:=by
 repeat (first
  |with_reducible refine vMv Cc ?_|with_reducible refine vFA Cc ?_|with_reducible refine vLd Cc ?_|with_reducible refine mn ?_|with_reducible refine kS ?_|with_reducible refine kO ?_|with_reducible refine kN ?_|with_reducible refine kB ?_|with_reducible refine ExM.scope ?_|with_reducible refine ExM.mark ?_|with_reducible refine kM ?_|with_reducible refine kE ?_|with_reducible refine kR ?_|with_reducible refine loR ?_|with_reducible refine kI ?_|with_reducible refine kJ ?_|with_reducible refine kX ?_|with_reducible refine kQ ?_|with_reducible refine ExM.exit ?_|with_reducible refine ExM.ret ?_|with_reducible refine cT Cc ?_|with_reducible refine cF Cc ?_|with_reducible refine vBt Cc Cc ?_|with_reducible refine vBf Cc Cc ?_|with_reducible refine vBt Cc bY135 ?_|with_reducible refine vBf Cc bY106 ?_|with_reducible refine vCl Cc (by with_unfolding_all apply_assumption-exfalso) ?_|with_reducible refine vAd Cc ?_|with_reducible refine vSu Cc ?_|with_reducible refine vAs Cc ?_|with_reducible refine wA ?_|with_reducible refine wB Cc ?_|refine mG ?_|with_reducible refine vGT Cc ?_|refine wV rfl rfl ?_|refine wt rfl ?_|refine wf rfl ?_|refine wT rfl ?_|refine wK rfl ?_)
 first|exact A6 trivial rfl rfl rfl|exact A4 trivial rfl rfl 100 rfl rfl):A:=h
section
variable {P : Program} {W0 : World} {G : List (Nat × AVal)} {ops : Array Oper}
theorem U3 {s:St}{sp:SP}(hok:It P ops sp=true){l:List Tr}{M':HMap}{ef:Env}{Hfin:Hz}(s2:N l=ops.size)(s3:D5 l ef 0=s.env)(h0:lkH 0 M'=some s.H)
 (hget:∀(j:Nat) (o:Oper),ops[j]?=some o→∃t,l[j]?=some t∧E7 o.dst s.n=true∧D5 l ef (j+1)=Ep o.dst t.v t.env)
 (hquiet:∀(j:Nat) (o:Oper) (t:Tr),ops[j]?=some o→l[j]?=some t→E4 P o≤1→∀σ∈sp.states,sp.mayB σ j=true→∃H2,lkH σ M'=some H2∧Eu P W0 G ops o ⟨t.env,H2,s.n⟩ λv' H'=>v'=t.v∧H'=H2)
 (hloud:∀σ∈sp.states,∀j∈sp.steps σ,∃o t H2 H2',ops[j]?=some o∧l[j]?=some t∧lkH σ M'=some H2∧(Eu P W0 G ops o ⟨t.env,H2,s.n⟩ λv' H'=>v'=t.v∧H'=H2')∧lkH (eR σ j) M'=some H2')
 (hfin:lkH sp.fin M'=some Hfin):
 ∃p:Plan,BA P W0 G ops s p∧(⟨ef,Hfin,s.n⟩:St)=⟨p.env ops.size,p.Hs p.fin,s.n⟩:=by
 simp only[It,bAt]at hok;obtain⟨⟨⟨⟨k1,k2⟩,k3⟩,k4⟩,k5⟩:=hok;have hN:sp.n=ops.size:=nBq k1;have hat:∀(j:Nat) (o:Oper),ops[j]?=some o→T9 P ops sp j o=true:=by grind
 have hat1:∀(j:Nat) (o:Oper),ops[j]?=some o→(∀e∈o.after,eC .any e=true→e.on<j)∧sp.mask.getD j 0=Me sp.mask o∧sp.kind.getD j 0=E4 P o∧
  ∀(i:Nat) (oi:Oper) (d:Nat),ops[i]?=some oi→oi.dst=some d→(i=j∨o.dst≠some d)∧(d∈reads P ops o→sp.msk j i=true∨sp.msk i j=true):=by
  intro j o ho;have:=hat j o ho;simp only[T9,bAt]at this;obtain⟨⟨⟨a1,a2⟩,a3⟩,a4⟩:=this;refine⟨λe he hb=>?_,nBq a2,nBq a3,λi oi d hi hd=>?_⟩;·have:=eB.1 a1 e (by grind);simp_all
  ·have:=eB.1 a4 i<|fC.2 (by grind);rw[hi]at this;simp only[fP,hd,bAt,eI]at this;obtain⟨b1,b2⟩:=this;refine⟨?_,λhr=>?_⟩
   ·rcases b1 with b1|b1;·simp_all
    ·refine .inr λhod=>?_;simp_all[Zh]
   ·have:=eB.1 b2 d hr;simp_all
 have hclosed:∀σ∈sp.states,∀j∈sp.steps σ,eR σ j∈sp.states:=λσ hσ j hj=>Iw<|eB.1 (eB.1 k3 σ hσ) j hj;have hsteps:∀σ j,j<ops.size→sp.eff j=true→tb σ j=false→sp.mayB σ j=true→j∈sp.steps σ:=by grind[SP.steps]
 refine⟨{v:=λj=>(l[j]?.map Tr.v).getD .nilIf,eff:=sp.eff,ok:=λσ=>σ∈sp.states,dn:=tb,nxt:=eR,fin:=sp.fin,Hs:=λσ=>(lkH σ M').getD [],mask:=sp.msk,env:=D5 l ef},?_,?_⟩
 ·have hmay:∀σ j,Plan.may {v:=λj=>(l[j]?.map Tr.v).getD .nilIf,eff:=sp.eff,ok:=λσ=>σ∈sp.states,dn:=tb,nxt:=eR,fin:=sp.fin,Hs:=λσ=>(lkH σ M').getD [],mask:=sp.msk,env:=D5 l ef} ops.size σ j→sp.mayB σ j=true:=λσ j hm=>(X9 hN).2 hm;refine⟨λj o ho=>(hat1 j o ho).1,λj o i ho hm=>?_,λi j oi oj t hi hj h1 h2=>?_,λj oj t hj ht i oi hi hti=>((hat1 j oj hj).2.2.2 i oi t hi hti).2 ht,s3,λi o ho=>?_,Iw k2,λi _ _=>Nat.zero_testBit i,?_,λj o ho hef σ hσ hm=>?_,λj o ho hef σ hσ hdn hm _=>?_,λσ hσ hall=>?_,λj o ho=>?_,λ_ h=>by cases h⟩;·have h2:=(hat1 j o ho).2.1;have hm':tb (sp.mask.getD j 0) i=true:=hm;rw[h2]at hm';exact M9 hm'
  ·grind
  ·grind[D5]
  ·grind
  ·obtain⟨t,a1,a2,a6⟩:=hget j o ho<;>grind[SP.eff,Nat.ble_eq,D5]
  ·have hjs:=(dZ.1 ho).1;have hst:=hsteps σ j hjs hef hdn (hmay σ j hm)<;>grind[BG,D5]
  ·have:sp.allIn σ=true:=by grind[SP.allIn]
   have h4:=eB.1 k4 σ hσ;simp_all
  grind
 simp_all[D5]
theorem DZ {e:Env}{H H2:Hz}{n:Nat}{op:AOp}(hk:op.kind=0){v:AVal}{H':Hz}(h:Ic P W0 H (aop G ⟨e,H,n⟩ op) λv' H''=>v'=v∧H''=H'):Ic P W0 H2 (aop G ⟨e,H2,n⟩ op) λv' H''=>v'=v∧H''=H2:=by
 have h0:=Xz (G:=G) (e:=e) (H:=H) (H':=H2) (n:=n) hk;cases hr:aop G ⟨e,H,n⟩ op with
 |none=>rw[hr]at h;exact h.elim
 |some r=>
  obtain⟨v1,side,rfl⟩:=Ko (.inl hk) hr;rw[hr]at h0 h;cases hr2:aop G ⟨e,H2,n⟩ op with
  |none=>rw[hr2]at h0;cases h0
  |some r2=>obtain⟨v2,TU,rfl⟩:=Ko (.inl hk) hr2;rw[hr2]at h0;simp only[Vb,iS,iP]at h0;obtain⟨h1,h2⟩:=h0;subst h1;subst h2;exact⟨h.1,h.2.1,rfl⟩
theorem Nk {e:Env}{H H2:Hz}{n:Nat}{o:Oper}(hk:E4 P o=0){v:AVal}{H':Hz}(h:Eu P W0 G ops o ⟨e,H,n⟩ λv' H''=>v'=v∧H''=H'):Eu P W0 G ops o ⟨e,H2,n⟩ λv' H''=>v'=v∧H''=H2:=by unfold Eu at h⊢;have hgd:D9 ops ⟨e,H2,n⟩ o.guard=D9 ops ⟨e,H,n⟩ o.guard:=rfl;rw[hgd];cases hg:D9 ops ⟨e,H,n⟩ o.guard with|none=>rw[hg]at h;exact h.elim|some b=>rw[hg]at h;cases b with|false=>exact⟨h.1,rfl⟩|true=>simp only at h⊢;unfold E4 at hk;cases hop:Au P o.op with|none=>rw[hop]at h;exact h.elim|some op=>rw[hop]at h hk;exact DZ hk h
end
section
variable {P : Program} {W0 : World} {G : List (Nat × AVal)}
def Zn (P:Program)(W0:World)(G:List<|Nat×AVal):Option AOper→St→(St→Prop)→Prop
 |some o,s,K=>Bj P W0 G o s λv H'=>E7 o.dst s.n=true∧K ⟨Ep o.dst v s.env,H',s.n⟩|none,_,_=>False
theorem drawL (hm:P.follows .mixedOrders=true)(hg:GOK W0 G){id:Nat}{ops:Array Oper}{l:List AOper}(hc:Bh P ops ops.toList=some l)(hsp:It P ops (Ey P ops.toList)=true)(hb:Zj (Ey P ops.toList)=true){s:St}{K:Aj→St→Prop}
 (h:By P W0 G l.dropLast s λs1=>Zn P W0 G l.getLast? s1<|K .normal):Ex P W0 (.region id ops true) s K:=by
 have hN0:(Ey P ops.toList).n=ops.size:=by simp_all[It]
 generalize Ey P ops.toList=sp at hsp hb hN0;obtain⟨hcl,hcg⟩:=D4 hc;have hsz:N l=ops.size:=Y;simp only[Zj,bAt]at hb;obtain⟨⟨⟨hst,h1n⟩,heff⟩,hk⟩:=hb;have h1n:=aO h1n;have hstates:sp.states=[0,eR 0<|sp.n-1]:=by split at hst<;>simp_all
 have hne:l≠[]:=by grind
 obtain⟨vs,r1,r2,r3⟩:=Qy h;have hlast:l.getLast?=some (l.getLast hne):=List.getLast?_eq_some_getLast hne;rw[hlast]at r2;obtain⟨vL,HL,q1,q2,q3⟩:=Ph r2;have hdl:N l.dropLast=N l-1:=List.length_dropLast;have hlN:N l-1=sp.n-1:=Y;let env:Nat→Env:=λj=>Ds l.dropLast vs s.env j;let tr:List Tr:=(eD<|sp.n-1).map (λj=>{env:=env j,v:=(vs[j]?).getD .nilIf,σ:=0})++[{env:=env<|sp.n-1,v:=vL,σ:=0}];have htl:N tr=ops.size:=by grind
 have htr:∀j,j<sp.n-1→tr[j]?=some {env:=env j,v:=(vs[j]?).getD .nilIf,σ:=0}:=λj hj=>by grind
 have htrL:tr[sp.n-1]?=some {env:=env<|sp.n-1,v:=vL,σ:=0}:=by grind
 have hfront:∀(j:Nat) (o:Oper),ops[j]?=some o→j<sp.n-1→∃v,vs[j]?=some v∧Eu P W0 G ops o ⟨env j,s.H,s.n⟩ (λv' H'=>v'=v∧H'=s.H)∧E7 o.dst s.n=true∧env (j+1)=Ep o.dst v (env j):=by
  intro j o ho hj;obtain⟨a,ha,hca⟩:=hcg j o (by grind);have ha':l.dropLast[j]?=some a:=by grind
  obtain⟨v,b1,b2,b3,b4⟩:=r3 j a ha';grind[D8,H7]
 have hL:∀(o:Oper),ops[sp.n-1]?=some o→Eu P W0 G ops o ⟨env<|sp.n-1,s.H,s.n⟩ (λv' H'=>v'=vL∧H'=HL)∧E7 o.dst s.n=true∧(l.getLast hne).dst=o.dst:=by intro o ho;obtain⟨a,ha,hca⟩:=hcg (sp.n-1) o (by grind);grind[D8,H7]
 have hbit:tb (eR 0<|sp.n-1) (sp.n-1)=true:=(BG 0 (sp.n-1)<|sp.n-1).2 (.inr rfl);have hk':∀j,j<sp.n-1→sp.kind.getD j 0=0∨(sp.kind.getD j 0=1∧sp.msk (sp.n-1) j=true):=by simp_all
 have hkind:∀(j:Nat) (o:Oper),ops[j]?=some o→sp.kind.getD j 0=E4 P o:=by intro j o ho;have h0:=hsp;simp only[It,bAt]at h0;have:=eB.1 h0.2 j<|fC.2 (dZ.1 ho).1;rw[ho]at this<;>simp_all[T9]
 have h0ne:(0:Nat)≠eR 0 (sp.n-1):=λe=>by grind[tb]
 have hl0:lkH 0 [(0,s.H),(eR 0<|sp.n-1,HL)]=some s.H:=Dq _ _ _;have hl1:lkH (eR 0<|sp.n-1) [(0,s.H),(eR 0<|sp.n-1,HL)]=some HL:=by grind[lkH,cV]
 have hfin:sp.fin=eR 0 (sp.n-1):=by
  have h0:=hsp;simp only[It,bAt]at h0;have h4:=eB.1 h0.1.2 (eR 0<|sp.n-1) (by grind);have hall:sp.allIn (eR 0<|sp.n-1)=true:=by
   unfold SP.allIn;rw[lAt];intro i hi;have hi':=fC.1 hi;cases he:sp.eff i with
   |false=>rfl
   |true=>
    rw[cond_true];by_cases hil:i=sp.n-1;·grind
    ·have:=hk' i Y;unfold SP.eff at he;have:=aO he;omega
  simp_all
 have hplan:=U3 (W0:=W0) (G:=G) (s:=s) hsp (l:=tr) (M':=[(0,s.H),(eR 0<|sp.n-1,HL)]) (ef:=Ep (l.getLast hne).dst vL<|env<|sp.n-1) (Hfin:=HL) htl ?_ hl0 ?_ ?_ ?_ (by grind);·grind[Ex.draw]
 ·unfold D5;by_cases h1:sp.n-1=0;·grind[Ds]
  ·rw[htr 0 Y];show Ds _ _ _ 0=_;cases l.dropLast<;>cases vs<;>rfl
 ·intro j o ho;have hj:=(dZ.1 ho).1;grind[D5]
 ·intro j o t ho ht hko σ hσ hmay;have hj:=(dZ.1 ho).1;have hjlt:j<sp.n-1:=by
   by_cases hjl:j=sp.n-1;·exfalso;have h2:=hkind j o ho;rw[hjl]at h2;unfold SP.eff at heff;have:=aO heff;omega
   ·omega
  obtain⟨v,b1,b2,b3,b4⟩:=hfront j o ho hjlt;rw[htr j hjlt]at ht;injection ht with ht;subst ht;rw[hstates]at hσ;simp only[eS,eY,or_false]at hσ;rcases hσ with rfl|rfl;·simp_all
  ·refine⟨HL,hl1,?_⟩;rcases hk' j hjlt with hk0|⟨hk1,hmk⟩;·rw[b1];exact Nk (by grind) b2
   ·exfalso;have hm2:=(X9 (p:=sp) (σ:=eR 0<|sp.n-1) (j:=j) hN0).1 hmay;grind
 ·intro σ hσ j hj;unfold SP.steps at hj;rw[List.mem_filter,fC]at hj;obtain⟨hjn,hj⟩:=hj;simp only[bAt,fD]at hj;have hjl:j=sp.n-1:=by
   by_cases hjl:j=sp.n-1;·exact hjl
   ·exfalso;have:=hk' j Y;have he:=hj.1.1;unfold SP.eff at he;have:=aO he;omega
  subst hjl;rw[hstates]at hσ;simp only[eS,eY,or_false]at hσ;have hσ0:σ=0:=by grind
  simp_all
theorem ExM.drawL (hg:Gr P W0 G){m:Nat}{l:List AOper}{s:St}{K:Aj→St→Prop}(h:By P W0 G l.dropLast s λs1=>Zn P W0 G l.getLast? s1<|K .normal):ExM P W0 m (.draw l true) s K:=ExM.of λc hc=>by obtain⟨id,ops,rfl,h1,h2,h3⟩:=Nb hc;exact Go.Abs.drawL hg.mixed hg.g h1 h2 h3 h
variable {l : List (Nat × AVal)} {H H' : Hz} {n : Nat} {K : St → Prop}
theorem KM {d:Nat}{op:AOp}{f:Nat}{args:List AVal}{v:AVal}(h:aop G ⟨.al l,H,n⟩ op=some (.call f args))(hd:(bB d n&&bB d 4094)=true)(hc:A5 P W0 f args H v H')(k:K ⟨.al ((d,v)::l),H',n⟩):Zn P W0 G (some ⟨some d,none,op⟩) ⟨.al l,H,n⟩ K:=by simp only[Zn,Bj,h];exact⟨v,H',hc,hd,k⟩
end
def nEq :List Nat→List Nat→Bool
 | [],[]=>true|a::r,b::s=>cond (aA a b) (nEq r s) false|_,_=>false
theorem IU :∀{l k:List Nat},nEq l k=true→l=k
 | [],[],_=>rfl| [],_::_,h=>Hq|_::_,[],h=>Hq|a::r,b::s,h=>by simp only[nEq]at h;cases hb:aA a b with|true=>rw[hb]at h;rw[nBq hb,IU h]|false=>rw[hb]at h;cases h
def E0 (x:Nat):HMap→Bool
 | []=>false|p::r=>cond (aA x p.1) true<|E0 x r
theorem Xu {x:Nat}:∀{M:HMap},E0 x M=true→∃H,lkH x M=some H
 | [],h=>Hq|p::r,h=>by simp only[E0,lkH]at h⊢;cases hb:aA x p.1 with|true=>exact⟨p.2,rfl⟩|false=>rw[hb]at h;exact Xu h
theorem ER {x:Nat}{H:Hz}:∀{M:HMap},lkH x M=some H→E0 x M=true
 | [],h=>Hq|p::r,h=>by simp only[E0,lkH]at h⊢;cases hb:aA x p.1 with|true=>rfl|false=>rw[hb]at h;exact ER h
theorem DP {x y:Nat}{H:Hz}{M:HMap}:lkH x ((y,H)::M)=if x=y then some H else lkH x M:=by simp_all[lkH]
theorem K8 {x y:Nat}{H:Hz}{M:HMap}:E0 x ((y,H)::M)=true↔x=y∨E0 x M=true:=by grind[E0,cV,aL]
structure Pd where
 j:Nat
 o:AOper
 e:Env
 v:AVal
section
variable (P : Program) (W0 : World) (G : List (Nat × AVal))
def P3 (q:Pd)(H:Hz)(n:Nat):Prop:=Bj P W0 G q.o ⟨q.e,H,n⟩ λv' H'=>v'=q.v∧H'=H
def R6 (p:SP)(σ:Nat)(q:Pd)(n:Nat):HMap→Prop
 | []=>True|x::r=>cond (aA x.1 σ|| !(p.mayB x.1 q.j)) True (P3 P W0 G q x.2 n)∧R6 p σ q n r
def Ij (p:SP)(σ:Nat)(H:Hz)(n:Nat):List Pd→Prop
 | []=>True|q::r=>cond (p.mayB σ q.j) (P3 P W0 G q H n) True∧Ij p σ H n r
def C7 (p:SP):List AOper→Nat→Nat→HMap→List Pd→St→(St→Prop)→Prop
 | [],_,σ,M,_,s,K=>(aA σ p.fin&&nEq (p.steps σ) []&&p.states.all λx=>E0 x M)=true∧K s
 |o::r,j,σ,M,pd,s,K=>Bj P W0 G o s λv H'=>E7 o.dst s.n=true∧
  cond (p.eff j)
   ((nEq (p.steps σ) [j]&& !(E0 (eR σ j) M))=true∧Ij P W0 G p (eR σ j) H' s.n pd∧C7 p r (j+1) (eR σ j) ((eR σ j,H')::M) pd ⟨Ep o.dst v s.env,H',s.n⟩ K)
   (H'=s.H∧cond (aA (p.kind.getD j 0) 0) True (R6 P W0 G p σ ⟨j,o,s.env,v⟩ s.n M)∧
    C7 p r (j+1) σ M (cond (aA (p.kind.getD j 0) 0|| !(p.states.any λx=>!(E0 x M)&&p.mayB x j)) pd (⟨j,o,s.env,v⟩::pd)) ⟨Ep o.dst v s.env,s.H,s.n⟩ K)
end
section
variable {P : Program} {W0 : World} {G : List (Nat × AVal)} {p : SP}
theorem X6 {σ:Nat}{q:Pd}{n:Nat}:∀{M:HMap},R6 P W0 G p σ q n M→∀{x:Nat}{H:Hz},lkH x M=some H→x≠σ→p.mayB x q.j=true→P3 P W0 G q H n
 | [],_,_,_,h,_,_=>Hq
 |y::r,hp,x,H,h,hne,hm=>by
  obtain⟨h1,h2⟩:=hp;obtain⟨y1,y2⟩:=y;rw[DP]at h;by_cases hy:x=y1;·simp_all
  ·rw[if_neg hy]at h;exact X6 h2 h hne hm
theorem Xs {σ:Nat}{H:Hz}{n:Nat}:∀{pd:List Pd},Ij P W0 G p σ H n pd→∀q∈pd,p.mayB σ q.j=true→P3 P W0 G q H n
 | [],_,_,hq,_=>by cases hq
 |y::r,hp,q,hq,hm=>by
  obtain⟨h1,h2⟩:=hp;rcases eS.1 hq with rfl|hq;·grind
  ·exact Xs h2 q hq hm
theorem R9 :∀{l:List AOper}{j σ:Nat}{M:HMap}{pd:List Pd}{s:St}{K:St→Prop},C7 P W0 G p l j σ M pd s K→lkH σ M=some s.H→
 ∃(vs:List AVal) (M':HMap) (Hf:Hz),N vs=N l∧K ⟨Ds l vs s.env<|N l,Hf,s.n⟩∧lkH p.fin M'=some Hf∧
  (∀x H,lkH x M=some H→lkH x M'=some H)∧(∀x∈p.states,E0 x M'=true)∧
  (∀x,E0 x M'=true→(E0 x M=true∧x≠σ)∨p.steps x=[]∨∃k a v H2 H3,l[k]?=some a∧vs[k]?=some v∧p.steps x=[j+k]∧lkH x M'=some H2∧lkH (eR x<|j+k) M'=some H3∧Bj P W0 G a ⟨Ds l vs s.env k,H2,s.n⟩ (λv' H'=>v'=v∧H'=H3))∧
  (∀k a,l[k]?=some a→∃v,vs[k]?=some v∧E7 a.dst s.n=true∧Ds l vs s.env (k+1)=Ep a.dst v (Ds l vs s.env k)∧
   (p.eff (j+k)=false→∃H0,P3 P W0 G ⟨j+k,a,Ds l vs s.env k,v⟩ H0 s.n)∧
   (p.eff (j+k)=false→p.kind.getD (j+k) 0≠0→∀x∈p.states,∀H2,lkH x M'=some H2→p.mayB x (j+k)=true→P3 P W0 G ⟨j+k,a,Ds l vs s.env k,v⟩ H2 s.n))∧
  (∀q∈pd,∀x∈p.states,∀H2,lkH x M'=some H2→E0 x M=false→p.mayB x q.j=true→P3 P W0 G q H2 s.n)
 | [],j,σ,M,pd,s,K,h,hσ=>by obtain⟨h1,h2⟩:=h;simp only[bAt]at h1;obtain⟨⟨a1,a2⟩,a3⟩:=h1;have a1:=nBq a1;have a2:=IU a2;refine⟨[],M,s.H,Z,h2,by grind,λ_ _ h=>h,λx hx=>eB.1 a3 x hx,λx hx=>?_,λk a hk=>by simp at hk,λq _ x _ H2 h3 h4 _=>?_⟩;all_goals grind
 |o::r,j,σ,M,pd,s,K,h,hσ=>by
  unfold C7 at h;obtain⟨v,H',h1,h2,h3⟩:=Ph h;cases heff:p.eff j with
  |true=>
   rw[heff,cond_true]at h3;obtain⟨b1,b2,b3⟩:=h3;simp only[bAt,fD]at b1;obtain⟨b0,b1⟩:=b1;have b0:=IU b0;obtain⟨vs,M',Hf,k1,k2,k3,k4,k5,k6,k7,k8⟩:=R9 b3<|Dq _ _ _;have hsig:lkH (eR σ j) M'=some H':=k4 _ _<|Dq _ _ _;have hpre:∀x H,lkH x M=some H→lkH x M'=some H:=λx H hx=>k4 x H (by rw[DP,if_neg (λe=>by grind[ER])];exact hx);refine⟨v::vs,M',Hf,by simp[k1],k2,k3,hpre,k5,λx hx=>?_,λk a hk=>?_,λq hq x hxs H2 hx hkn hm=>?_⟩
   ·rcases k6 x hx with⟨c1,c2⟩|c|⟨k,a,v',H2,H3,c1,c2,c3,c4,c5,c6⟩
    ·rcases K8.1 c1 with c1|c1;·omega
     ·by_cases he:x=σ;·subst he;refine .inr<|.inr ⟨0,o,v,s.H,H',Z,Z,b0,hpre _ _ hσ,hsig,?_⟩;exact h1
      grind
    ·grind
    ·refine .inr (.inr ⟨k+1,a,v',H2,H3,by grind,by grind,?_,c4,?_,c6⟩)<;>grind
   ·cases k with
    |zero=>
     simp only[eV,iS]at hk;subst hk;refine⟨v,Z,h2,?_,λhc=>?_,λhc=>?_⟩;·show Ds r vs _ 0=_;cases r<;>cases vs<;>rfl
     ·grind
     ·grind
    |succ k=>simp only[eT]at hk⊢;have:j+(k+1)=j+1+k:=Y;rw[this];exact k7 k a hk
   ·grind[Xs,K8]
  |false=>
   rw[heff,cond_false]at h3;obtain⟨b1,b2,b3⟩:=h3;subst b1;obtain⟨vs,M',Hf,k1,k2,k3,k4,k5,k6,k7,k8⟩:=R9 b3 hσ;refine⟨v::vs,M',Hf,by simp[k1],k2,k3,k4,k5,λx hx=>?_,λk a hk=>?_,λq hq x hxs H2 hx hkn hm=>?_⟩
   ·rcases k6 x hx with c|c|⟨k,a,v',H2,H3,c1,c2,c3,c4,c5,c6⟩;·exact .inl c
    ·grind
    ·refine .inr (.inr ⟨k+1,a,v',H2,H3,by grind,by grind,?_,c4,?_,c6⟩)<;>grind
   ·cases k with
    |zero=>
     simp only[eV,iS]at hk;subst hk;refine⟨v,Z,h2,?_,λ_=>⟨s.H,h1⟩,λ_ hk0 x hxs H2 hx hm=>?_⟩;·show Ds r vs _ 0=_;cases r<;>cases vs<;>rfl
     ·rw[aZ]at hk0 hm;have hkb:aA (p.kind.getD j 0) 0=false:=by grind[cV]
      rw[hkb,cond_false]at b2;cases hkn:E0 x M with
      |true=>
       obtain⟨H3,h3⟩:=Xu hkn;have:=k4 _ _ h3;rw[hx]at this;injection this with this;subst this;by_cases he:x=σ;·subst he;rw[hσ]at h3;injection h3 with h3;subst h3;exact h1
       ·exact X6 b2 h3 he hm
      |false=>have hany:(p.states.any λx=>!(E0 x M)&&p.mayB x j)=true:=List.any_eq_true.2 ⟨x,hxs,by grind⟩;refine k8 ⟨j,o,s.env,v⟩ ?_ x hxs H2 hx hkn hm;rw[hkb,hany];exact List.mem_cons_self
    |succ k=>simp only[eT]at hk⊢;have:j+(k+1)=j+1+k:=Y;rw[this];exact k7 k a hk
   ·grind
theorem drawC (hm:P.follows .mixedOrders=true)(hg:GOK W0 G){id:Nat}{ops:Array Oper}{l:List AOper}(hc:Bh P ops ops.toList=some l)(hsp:It P ops p=true){s:St}{K:Aj→St→Prop}
 (h:C7 P W0 G p l 0 0 [(0,s.H)] [] s<|K .normal):Ex P W0 (.region id ops true) s K:=by
 obtain⟨hcl,hcg⟩:=D4 hc;have hsz:N l=ops.size:=Y;have hkind:∀(j:Nat) (o:Oper),ops[j]?=some o→p.kind.getD j 0=E4 P o:=by simp_all[It,aSi,T9]
 obtain⟨vs,M',Hf,r1,r2,r3,r4,r5,r6,r7,_⟩:=R9 h<|Dq _ _ _;let tr:List Tr:=(eD ops.size).map λj=>{env:=Ds l vs s.env j,v:=(vs[j]?).getD .nilIf,σ:=0};have htl:N tr=ops.size:=by simp[tr]
 have htr:∀j,j<ops.size→tr[j]?=some {env:=Ds l vs s.env j,v:=(vs[j]?).getD .nilIf,σ:=0}:=λj hj=>by grind
 have hget:∀(j:Nat) (o:Oper),ops[j]?=some o→∃a v,l[j]?=some a∧B5 P ops o=some a∧vs[j]?=some v∧E7 o.dst s.n=true∧Ds l vs s.env (j+1)=Ep o.dst v (Ds l vs s.env j)∧
  (p.eff j=false→∃H0,Eu P W0 G ops o ⟨Ds l vs s.env j,H0,s.n⟩ λv' H'=>v'=v∧H'=H0)∧
  (p.eff j=false→p.kind.getD j 0≠0→∀x∈p.states,∀H2,lkH x M'=some H2→p.mayB x j=true→Eu P W0 G ops o ⟨Ds l vs s.env j,H2,s.n⟩ λv' H'=>v'=v∧H'=H2):=by
  intro j o ho;obtain⟨a,ha,hca⟩:=hcg j o (by grind);obtain⟨v,b1,b2,b3,b4,b5⟩:=r7 j a ha;rw[D8 hca]at b2 b3;rw[bS]at b4 b5;refine⟨a,v,ha,hca,b1,b2,b3,λhe=>?_,λhe hk x hx H2 hl hm=>H7 hca<|b5 he hk x hx H2 hl hm⟩;obtain⟨H0,h0⟩:=b4 he;exact⟨H0,H7 hca h0⟩
 have hplan:=U3 (W0:=W0) (G:=G) (s:=s) hsp (l:=tr) (M':=M') (ef:=Ds l vs s.env ops.size) (Hfin:=Hf) htl ?_ (r4 _ _<|Dq _ _ _) ?_ ?_ ?_ r3;·grind[Ex.draw]
 ·unfold D5;by_cases h0:0<ops.size;·rw[htr 0 h0];show Ds _ _ _ 0=_;cases l<;>cases vs<;>rfl
  grind[Ds]
 ·grind[D5]
 ·intro j o t ho ht hko σ hσ hmay;have hj:=(dZ.1 ho).1;rw[htr j hj]at ht;injection ht with ht;subst ht;obtain⟨a,v,a1,a2,a3,a4,a5,a6,a7⟩:=hget j o ho;obtain⟨H2,h2⟩:=Xu<|r5 σ hσ;refine⟨H2,h2,?_⟩;have heff:p.eff j=false:=by unfold SP.eff;rw[hkind j o ho];cases hb:Nat.ble 2 (E4 P o)with|false=>rfl|true=>have:=aO hb;omega
  show Eu P W0 G ops o ⟨Ds l vs s.env j,H2,s.n⟩ λv' H'=>v'=(vs[j]?).getD .nilIf∧H'=H2;rw[a3];by_cases hk0:p.kind.getD j 0=0;·obtain⟨H0,h0⟩:=a6 heff;exact Nk (by grind) h0
  ·exact a7 heff hk0 σ hσ H2 h2 hmay
 ·intro σ hσ j hj;rcases r6 σ (r5 σ hσ)with⟨c1,c2⟩|c|⟨k,a,v,H2,H3,c1,c2,c3,c4,c5,c6⟩
  ·rcases K8.1 c1 with c|c;·omega
   ·cases c
  ·grind
  ·rw[c3,bS,List.mem_singleton]at hj;subst hj;rw[bS]at c5;have hjlt:j<ops.size:=by grind
   have ho:ops[j]?=some ops[j]:=Array.getElem?_eq_getElem hjlt;obtain⟨a',v',a1,a2,a3,_⟩:=hget j _ ho;rw[c1]at a1;injection a1 with a1;subst a1;refine⟨ops[j],_,H2,H3,ho,htr j hjlt,c4,?_,c5⟩;show Eu P W0 G ops ops[j] ⟨Ds l vs s.env j,H2,s.n⟩ λv' H'=>v'=(vs[j]?).getD .nilIf∧H'=H3;simp_all[H7]
theorem ExM.drawC (hg:Gr P W0 G){m:Nat}{l:List AOper}{p:SP}{s:St}{K:Aj→St→Prop}(h:C7 P W0 G p l 0 0 [(0,s.H)] [] s<|K .normal):ExM P W0 m (.drawC l p) s K:=ExM.of λc hc=>by obtain⟨id,ops,rfl,h1,h2⟩:=V6 hc;exact Go.Abs.drawC hg.mixed hg.g h1 h2 h
variable {l : List (Nat × AVal)} {H H' : Hz} {n j σ : Nat} {M : HMap} {pd : List Pd} {K : St → Prop} {r : List AOper}
theorem MK (h:(aA σ p.fin&&nEq (p.steps σ) []&&p.states.all λx=>E0 x M)=true)(k:K ⟨.al l,H,n⟩):C7 P W0 G p [] j σ M pd ⟨.al l,H,n⟩ K:=⟨h,k⟩
theorem Ha {d:Nat}{op:AOp}{v:AVal}{side:List (Int×Int)}(h:aop G ⟨.al l,H,n⟩ op=some (.val v H side))(hd:(bB d n&&bB d 4094)=true)(hs:Ah side)
 (he:(!(p.eff j)&&(aA (p.kind.getD j 0) 0||(M.all λx=>aA x.1 σ|| !(p.mayB x.1 j))))=true)
 (k:C7 P W0 G p r (j+1) σ M (cond (aA (p.kind.getD j 0) 0|| !(p.states.any λx=>!(E0 x M)&&p.mayB x j)) pd (⟨j,⟨some d,none,op⟩,.al l,v⟩::pd)) ⟨.al ((d,v)::l),H,n⟩ K):
 C7 P W0 G p (⟨some d,none,op⟩::r) j σ M pd ⟨.al l,H,n⟩ K:=by
 simp only[bAt,fD,eI]at he;unfold C7;simp only[Bj,h];refine⟨hs,hd,?_⟩;rw[he.1,cond_false];refine⟨Z,?_,k⟩;cases hk:aA (p.kind.getD j 0) 0 with
 |true=>trivial
 |false=>
  rcases he.2 with h0|h0;·grind
  ·rw[cond_false];clear k h he;induction M with|nil=>trivial|cons x M ih=>simp only[List.all_cons,bAt]at h0;refine⟨?_,ih h0.2⟩;have h1:(aA x.1 σ|| !(p.mayB x.1 j))=true:=h0.1;show cond (aA x.1 σ|| !(p.mayB x.1 j)) True _;rw[h1];trivial
theorem cEff {d:Option Nat}{op:AOp}{v:AVal}(h:Bj P W0 G ⟨d,none,op⟩ ⟨.al l,H,n⟩ λv' X=>v'=v∧X=H')(hd:E7 d n=true)(he:(p.eff j&&(nEq (p.steps σ) [j]&& !(E0 (eR σ j) M)))=true)(hp:Ij P W0 G p (eR σ j) H' n pd)
 (k:C7 P W0 G p r (j+1) (eR σ j) ((eR σ j,H')::M) pd ⟨Ep d v<|.al l,H',n⟩ K):C7 P W0 G p (⟨d,none,op⟩::r) j σ M pd ⟨.al l,H,n⟩ K:=by
 simp only[bAt]at he;unfold C7;have:∀{Q:AVal→Hz→Prop},Q v H'→Bj P W0 G ⟨d,none,op⟩ ⟨.al l,H,n⟩ Q:=λ{Q} hQ=>by simp only[Bj]at h⊢;unfold Ic at h⊢;grind
 grind
theorem Rl {d:Nat}{op:AOp}{v:AVal}{side:List (Int×Int)}(h:aop G ⟨.al l,H,n⟩ op=some (.val v H' side))(hd:(bB d n&&bB d 4094)=true)(hs:Ah side)(he:(p.eff j&&(nEq (p.steps σ) [j]&& !(E0 (eR σ j) M)))=true)(hp:Ij P W0 G p (eR σ j) H' n pd)
 (k:C7 P W0 G p r (j+1) (eR σ j) ((eR σ j,H')::M) pd ⟨.al ((d,v)::l),H',n⟩ K):C7 P W0 G p (⟨some d,none,op⟩::r) j σ M pd ⟨.al l,H,n⟩ K:=
 cEff (v:=v) (by simp only[Bj,h];exact⟨hs,rfl,rfl⟩) hd he hp k
theorem V5 {d:Nat}{op:AOp}{f:Nat}{args:List AVal}{v:AVal}(h:aop G ⟨.al l,H,n⟩ op=some (.call f args))(hd:(bB d n&&bB d 4094)=true)(hc:A5 P W0 f args H v H')(he:(p.eff j&&(nEq (p.steps σ) [j]&& !(E0 (eR σ j) M)))=true)(hp:Ij P W0 G p (eR σ j) H' n pd)
 (k:C7 P W0 G p r (j+1) (eR σ j) ((eR σ j,H')::M) pd ⟨.al ((d,v)::l),H',n⟩ K):C7 P W0 G p (⟨some d,none,op⟩::r) j σ M pd ⟨.al l,H,n⟩ K:=
 cEff (v:=v) (by simp only[Bj,h];exact⟨v,H',hc,rfl,rfl⟩) hd he hp k
theorem Wp {op:AOp}(h:aop G ⟨.al l,H,n⟩ op=some (.skip H'))(he:(p.eff j&&(nEq (p.steps σ) [j]&& !(E0 (eR σ j) M)))=true)(hp:Ij P W0 G p (eR σ j) H' n pd)
 (k:C7 P W0 G p r (j+1) (eR σ j) ((eR σ j,H')::M) pd ⟨.al l,H',n⟩ K):C7 P W0 G p (⟨none,none,op⟩::r) j σ M pd ⟨.al l,H,n⟩ K:=
 cEff (d:=none) (v:=.tup []) (by simp only[Bj,h];exact⟨rfl,rfl⟩) rfl he hp k
theorem zSkip {op:AOp}(h:aop G ⟨.al l,H,n⟩ op=some (.skip H'))(k:K ⟨.al l,H',n⟩):Zn P W0 G (some ⟨none,none,op⟩) ⟨.al l,H,n⟩ K:=by simp only[Zn,Bj,h];exact⟨Z,k⟩
theorem Vn {d:Nat}{op:AOp}{v:AVal}{side:List (Int×Int)}(h:aop G ⟨.al l,H,n⟩ op=some (.val v H side))(hd:(bB d n&&bB d 4094)=true)(hs:Ah side)
 (he:(!(p.eff j)&& !(aA (p.kind.getD j 0) 0))=true) (hp:R6 P W0 G p σ ⟨j,⟨some d,none,op⟩,.al l,v⟩ n M)
 (k:C7 P W0 G p r (j+1) σ M (cond (aA (p.kind.getD j 0) 0|| !(p.states.any λx=>!(E0 x M)&&p.mayB x j)) pd (⟨j,⟨some d,none,op⟩,.al l,v⟩::pd)) ⟨.al ((d,v)::l),H,n⟩ K):
 C7 P W0 G p (⟨some d,none,op⟩::r) j σ M pd ⟨.al l,H,n⟩ K:=by
 simp only[bAt,fD]at he;unfold C7;simp only[Bj,h];refine⟨hs,hd,?_⟩;rw[he.1,cond_false];refine⟨Z,?_,k⟩;grind
theorem pdN :Ij P W0 G p σ H n []:=O
theorem pdC {q:Pd}(h:cond (p.mayB σ q.j) (P3 P W0 G q H n) True)(k:Ij P W0 G p σ H n pd):Ij P W0 G p σ H n (q::pd):=⟨h,k⟩
theorem ptN {q:Pd}:R6 P W0 G p σ q n []:=O
theorem ptC {q:Pd}{x:Nat×Hz}(h:cond (aA x.1 σ|| !(p.mayB x.1 q.j)) True<|P3 P W0 G q x.2 n)(k:R6 P W0 G p σ q n M):R6 P W0 G p σ q n (x::M):=⟨h,k⟩
theorem evY {j d:Nat}{op:AOp}{e:Env}{v:AVal}{side:List (Int×Int)}(h:aop G ⟨e,H,n⟩ op=some (.val v H side))(hs:Ah side):P3 P W0 G ⟨j,⟨some d,none,op⟩,e,v⟩ H n:=by simp only[P3,Bj,h];exact⟨hs,Z,Z⟩
theorem cY {b:Bool}{A:Prop}(h:b=true)(k:A):cond b A True:=by grind
theorem cN {b:Bool}{A:Prop}(h:b=false):cond b A True:=by grind
theorem cYp {b:Bool}{A:Prop}(h:b=false)(k:A):cond b True A:=by grind
theorem cNp {b:Bool}{A:Prop}(h:b=true):cond b True A:=by grind
end
end Go.Abs
