/- A part of the proof that tabula/tabulalaw25.PackBack returns true for every input, each argument reading as it did (its card: the last text). No conditions of its own. -/
import Derived.Test.YtlfcfgbbhlgocaaGreatDoorTD
import Derived.Test.YtlfcfgbbhlgocaaGreatDoorProg
import Derived.Test.YtlfcfgbbhlgocaaGreatDoorShelf2
import Derived.WalkKit
import Derived.Sort.OwnSorted
import Derived.Lib.SlicesCompact
set_option linter.unusedVariables false
set_option linter.unusedSimpArgs false
open List renaming length->N
open Go.Abs.AVal renaming int->J,str->S,bool->I,ptr->aP,row->aR,tup->aU,agg->aG,hsl->aH,nilSl->aN,eptr->aE
open Go.Abs.HObj renaming cells->C
open Go.IntKind renaming i64->U,i8->z8
open Array renaming replicate->fE,getElem?_eq_some_iff->dZ,getElem?_eq_getElem->eE
open Bool renaming or_eq_true->eI
open ByteArray renaming mk->aK
open Go.Abs.A5 renaming of_below->gM,pure->hO
open Go.Abs.ExA renaming ret->gG,seq->gP,draw->gQ,ops->gU,condT->hU
open Go.Abs.ExR renaming step->gV
open Go.Abs.Ext renaming refl->eA
open Go.Abs.SP renaming nxt->eR
open Go.Calls renaming mono->eU
open Go.Code renaming seq->iD
open Go.IntKind renaming i32->gE
open Go.Lib renaming compactUpTo->gI,hasPrefix->gJ,atoiAll->gW,decDigits->gY,cut->iB,trimPrefix->iC,join->iF,contains->iH,validGoD->gD
open Go.Proofs.Tryz renaming prog->gH,strings_Join_none->iA
open Go.Region renaming wanted->eO,binds->eC
open Go.RowKit.Below renaming refl->gO
open Go.Sort renaming ahead->gR
open List renaming all_eq_true->eB,getElem?_cons_zero->eV,getElem?_toArray->bW,mem_cons->eS,replicate->fH,getElem?_cons_succ->eT,mem_cons_of_mem->fF,eq_nil_of_length_eq_zero->bF,mem_range->fC,mem_cons_self->gX,range->eD,mem_append->eG,mem_of_mem_drop->iG
open Nat renaming beq->aA,ble->bK,le_of_ble_eq_true->aO,blt->bB,eq_of_beq_eq_true->cV,beq_refl->fY,blt_eq->gZ,testBit_lt_two_pow->hY,zero_le->hZ,pow_le_pow_right->fG,zero_add->bS,le_refl->bC
open UInt8 renaming ofNat->iI
namespace Go.Abs
open Go.RowKit
def FB (P:Program)(W0:World)(g:FuncId)(caps:List AVal)(v:AVal)(H H2:Hz):Prop:=
 ∀(F:Nat→Prop) (bs:List Nat) (w:World) (cap:List Value) (cv:Value),Ae W0 F bs H w→Ab F bs H w caps cap→Rep F bs H w v cv→
  CallsD P g cap.toArray (.panicking<|pch cv) w λe u' w'=>e= .returned (.tuple #[])∧u'= .panicking [{v:=cv,recovered:=true}]∧∃bs',Ae W0 F bs' H2 w'∧Ext bs H w bs' H2 w'
section
variable {P : Program} {W0 : World} {G : List (Nat × AVal)}
theorem A5.of_rec (hg:Gr P W0 G){f:FuncId}{fn:Func}{r0 r1 rest:Code}{a0 a1 ar:ACode}{id t:Nat}{g:FuncId}{ops:Array Oper}{o0 o1:Oper}{ao:AOper}(hf:P.funcs[f]?=some fn)(hb:fn.body=some (.seq r0<|.seq r1<|.seq (.region id ops false) rest))
 (hnm:fn.name≠ "runtime.NumGoroutine") (hgb:E1 P g) (c0:Bo P r0=some a0) (c1:Bo P r1=some a1) (cr:Bo P rest=some ar) (co:B5 P ops o0=some ao)
 (hops:ops= #[o0,o1]) (h1g:o1.guard=none) (h1d:o1.dst=none) (h1c:∃c,o1.op= .defer c∧c.callee= .value (.tmp t)∧c.args= #[])
 {args:List AVal}{H:Hz}{v vo:AVal}{Ho:Hz} (hl:N args≤4094)
 (h:ExM P W0 (N H) a0 ⟨.al (Ec 0 args),H,N args+(fn.ntmps-N args)⟩ λe s0=>e= .normal∧ExM P W0 (N H) a1 s0 λe s1=>e= .normal∧Hj P W0 G ao s1 λs2=>∃caps,s2.env.get t=some (.fn g [] caps)∧
  ExP P W0 (N s2.H) ar s2 v λs3=>∃H2,FB P W0 g caps v s3.H H2∧∃vs,Dk P ⟨s3.env,H2,s3.n⟩ fn.results.toList=some vs∧Ls (N H) (Cb vs) H2=(vo,Ho)):
 A5 P W0 f args H vo Ho:=by
 refine⟨⟨fn,_,hf,hb,hnm⟩,λF bs w cargs hh hr=>?_⟩;refine calls_of_wp_defers hf hb ?_;have hrs:=F8 hh hr hl fn.ntmps;have hrs':RS W0 F bs ⟨.al<|Ec 0 args,H,N args+(fn.ntmps-N args)⟩ {tmps:=cargs.toArray++fE (fn.ntmps-cargs.toArray.size) undef,defers:=[]} w:=
  ⟨hrs.heap,hrs.size,λt u hu=>hrs.env t u (by
   rw[Df args 0 .leaf t Y];have hu:lk t (Ec 0 args)=some u:=hu;rw[I5]at hu
   grind)⟩
 refine wp_seq<|h r0 c0 F bs _ w hrs' bs H w Z (eA _ _ _) _ λe s0 bs0 a0' w0 hk hrs0 hext0 hd0=>?_;obtain⟨rfl,hk⟩:=hk;show(iD r1 _).wp P _ a0' w0;refine wp_seq<|hk r1 c1 F bs0 a0' w0 hrs0 bs H w Z hext0 _ λe s1 bs1 a1' w1 hk hrs1 hext1 hd1=>?_;obtain⟨rfl,hk⟩:=hk;show(iD _ rest).wp P _ a1' w1;refine wp_seq ?_;refine wp_region ?_;have hP:=Nq co hk;subst hops;have hrg:eD (#[o0,o1]:Array Oper).size=[0,1]:=rfl;rw[hrg];simp only[wpOps,bW,eV,eT];refine J3 hg.g hrs1 hP λs2 bs2 a2 w2 hk hrs2 hext2 hdf=>?_;obtain⟨caps,hc,hk⟩:=hk;have hrep:=hrs2.env t _ hc;simp only[Rep,Ab]at hrep;obtain⟨fs,cs,hv,rfl,hcs⟩:=hrep;obtain⟨cl,hop,hcal,hargs⟩:=h1c;have hw:eO o1 (yielded #[o0,o1] a2.tmps)=true:=by simp[eO,h1g]
 rw[if_pos hw];refine .inl ?_;have hexec:(execOp a2.eval o1).run P w2= .ok (.defer ⟨.fn (.func g) cs.toArray,#[]⟩) w2:=by
  have hev:a2.eval (.tmp t)= .func (.func g) #[] cs.toArray:=by show a2.tmps.getD t undef=_;exact hv
  simp_all[execOp,resolve,Deferred.ofValue]
 unfold Oper.wp;rw[hexec,Oper.upon_defer];have hput:({a2 with defers:=⟨.fn (.func g) cs.toArray,#[]⟩::a2.defers}:Act).put o1.dst undef={a2 with defers:=⟨.fn (.func g) cs.toArray,#[]⟩::a2.defers}:=by rw[h1d];rfl
 rw[hput];have hrs2':RS W0 F bs2 s2 {a2 with defers:=⟨.fn (.func g) cs.toArray,#[]⟩::a2.defers} w2:=⟨hrs2.heap,hrs2.size,hrs2.env⟩;refine hk rest cr F bs2 _ w2 hrs2' bs2 s2.H w2 Z (eA _ _ _) _ λcv s3 bs3 a3 w3 hk hrs3 hrep3 hext3 hd3=>?_;obtain⟨H2,hrec,vs,hvs,hlv⟩:=hk;have hcs3:=Ab.ext hext3 caps cs hcs;have hdef:a3.defers=[⟨.fn (.func g) cs.toArray,#[]⟩]:=by grind
 have hinv:(invoke (.fn (.func g) cs.toArray) #[]).run P w3= .ok (.enter g cs.toArray) w3:=by obtain⟨fg,cg,k1,k2,k3⟩:=hgb;show(callFunc g<|#[]++cs.toArray).run P w3=_;simp_all[callFunc]
 show Leaves P fn a3.tmps _ a3.defers (.panicking<|pch cv) w3;rw[hdef];refine⟨B4,.func g,cs.toArray,g,cs.toArray,Z,hinv,?_⟩;refine(hrec F bs3 w3 cs cv hrs3.heap hcs3 hrep3).mono ?_;rintro e u' w4 ⟨rfl,rfl,bs4,hh4,hext4⟩;have hrs4:RS W0 F bs4 ⟨s3.env,H2,s3.n⟩ a3 w4:=⟨hh4,hrs3.size,λt u hu=>Rep.ext hext4 u _<|hrs3.env t u hu⟩;obtain⟨cv',h1,h2⟩:=Es hrs4 hvs;have hextA:Ext bs H w bs4 H2 w4:=((hext1.trans hext2).trans hext3).trans hext4;obtain⟨bs5,h3,h4,h5⟩:=Rk hh4 hextA h2;rw[hlv]at h3 h4 h5;exact⟨cv',h1,cv',bs5,Z,h3,h4,h5⟩
theorem FB.of {g:FuncId}{fn:Func}{id0 t:Nat}{o0:Oper}{rest:Code}{ar:ACode}(hf:P.funcs[g]?=some fn)(hb:fn.body=some (.seq (.region id0 #[o0] false) rest))(hgd:o0.guard=none)(hd:o0.dst=some t)
 (hrec:∀(a:Act) (w:World),(execOp a.eval o0).run P w= .ok .recover w) (cr:Bo P rest=some ar) (hres:fn.results= #[]) {caps:List AVal}{v:AVal}{H H2:Hz} (hl:N caps≤4094) {n:Nat} (hn:N caps+(fn.ntmps-N caps)=n) (ht:(bB t n&&bB t 4094)=true)
 (h:ExM P W0 (N H) ar ⟨.al ((t,v)::Ec 0 caps),H,n⟩ λe s'=>(match e with|.exit _=>False|_=>True)∧s'.H=H2):FB P W0 g caps v H H2:=by
 intro F bs w cap cv hh hcap hcv;subst hn;refine callsD_of_wpS hf hb λc₀ cs hu=>?_;apply wpS_seq;apply wpS_region;have hrg:eD (#[o0]:Array Oper).size=[0]:=rfl;rw[hrg];simp only[wpOpsS,bW,eV];have hw:∀x:Array Value,eO o0 (yielded #[o0] x)=true:=λx=>JU;rw[if_pos<|hw _,hrec];have hrc:recoverD (c₀::cs)=some (cv,{c₀ with mode:=.panicking [{v:=cv,recovered:=true}]}::cs):=by simp[recoverD,hu,pch]
 simp only[hrc];have hrs:=F8 hh hcap hl fn.ntmps;have hrs':RS W0 F bs ⟨.al<|Ec 0 caps,H,N caps+(fn.ntmps-N caps)⟩ {tmps:=cap.toArray++fE (fn.ntmps-cap.toArray.size) undef,defers:=[]} w:=
  ⟨hrs.heap,hrs.size,λt u hu=>hrs.env t u (by
   rw[Df caps 0 .leaf t Y];have hu:lk t (Ec 0 caps)=some u:=hu;rw[I5]at hu
   grind)⟩
 obtain⟨s',hK,hrs2,hH⟩:=hrs'.put (dst:=o0.dst) (K:=λs'=>s'=⟨.al ((t,v)::Ec 0 caps),H,N caps+(fn.ntmps-N caps)⟩) hcv hh (eA _ _ _) (by rw[hd];exact⟨ht,rfl⟩);subst hK;show rest.wpS P _ _ _ _;refine wpS_of_wp<|h rest cr F bs _ w hrs2 bs H w Z (eA _ _ _) _ λe s' bs' a' w' hk hrs hext hdf=>?_;obtain⟨hne,rfl⟩:=hk;have hput:∀(a:Act) (dst:Option Tmp) (v:Value),(a.put dst v).defers=a.defers:=λa dst v=>AA;have hdn:a'.defers=[]:=by grind
 have fin:∃u',({c₀ with mode:=.panicking [{v:=cv,recovered:=true}]}::cs:List Frame)={c₀ with mode:=u'}::cs∧∃r,(results fn a'.tmps).run P w'= .ok r w'∧(Ending.returned r= .returned (.tuple #[])∧u'= .panicking [{v:=cv,recovered:=true}]∧∃bs',Ae W0 F bs' s'.H w'∧Ext bs H w bs' s'.H w'):=⟨_,rfl,.tuple #[],by simp[results,hres],rfl,rfl,bs',hrs.heap,hext⟩;cases e with|normal=>exact⟨hdn,fin⟩|ret=>exact⟨hdn,fin⟩|exit id=>exact hne.elim
end
section
variable {P : Program} {W0 : World} {G : List (Nat × AVal)}
theorem FB.of2 {g:FuncId}{fn:Func}{id0 t t2:Nat}{o0 o1:Oper}{rest:Code}{ar:ACode}(hf:P.funcs[g]?=some fn)(hb:fn.body=some (.seq (.region id0 #[o0,o1] false) rest))(hgd:o0.guard=none)(hd:o0.dst=some t)(hgd1:o1.guard=none)(hd1:o1.dst=some t2)
 (hrec:∀(a:Act) (w:World),(execOp a.eval o0).run P w= .ok .recover w) (hmv:∀(a:Act) (w:World),(execOp a.eval o1).run P w= .ok (.value<|a.eval<|.tmp t) w) (cr:Bo P rest=some ar) (hres:fn.results= #[]) {caps:List AVal}{v:AVal}{H H2:Hz} (hl:N caps≤4094) {n:Nat} (hn:N caps+(fn.ntmps-N caps)=n) (ht:(bB t n&&bB t 4094)=true) (ht2:(bB t2 n&&bB t2 4094)=true)
 (h:ExM P W0 (N H) ar ⟨.al ((t2,v)::(t,v)::Ec 0 caps),H,n⟩ λe s'=>(match e with|.exit _=>False|_=>True)∧s'.H=H2):FB P W0 g caps v H H2:=by
 intro F bs w cap cv hh hcap hcv;subst hn;refine callsD_of_wpS hf hb λc₀ cs hu=>?_;apply wpS_seq;apply wpS_region;have hrg:eD (#[o0,o1]:Array Oper).size=[0,1]:=rfl;rw[hrg];simp only[wpOpsS,bW,eV,eT];have hw:∀x:Array Value,eO o0 (yielded #[o0,o1] x)=true:=λx=>JU;have hw1:∀x:Array Value,eO o1 (yielded #[o0,o1] x)=true:=λx=>by simp[eO,hgd1]
 rw[if_pos<|hw _,hrec];have hrc:recoverD (c₀::cs)=some (cv,{c₀ with mode:=.panicking [{v:=cv,recovered:=true}]}::cs):=by simp[recoverD,hu,pch]
 simp only[hrc];rw[if_pos<|hw1 _,hmv];have hrs:=F8 hh hcap hl fn.ntmps;have hrs':RS W0 F bs ⟨.al<|Ec 0 caps,H,N caps+(fn.ntmps-N caps)⟩ {tmps:=cap.toArray++fE (fn.ntmps-cap.toArray.size) undef,defers:=[]} w:=
  ⟨hrs.heap,hrs.size,λt u hu=>hrs.env t u (by
   rw[Df caps 0 .leaf t Y];have hu:lk t (Ec 0 caps)=some u:=hu;rw[I5]at hu
   grind)⟩
 obtain⟨s1,hK1,hrs1,hH1⟩:=hrs'.put (dst:=o0.dst) (K:=λs'=>s'=⟨.al ((t,v)::Ec 0 caps),H,N caps+(fn.ntmps-N caps)⟩) hcv hh (eA _ _ _) (by rw[hd];exact⟨ht,rfl⟩);subst hK1;have hev:Rep F bs H w v ((({tmps:=cap.toArray++fE (fn.ntmps-cap.toArray.size) undef,defers:=[]}:Act).put o0.dst cv).eval<|.tmp t):=hrs1.env t v (by show lk t ((t,v)::Ec 0 caps)=some v;simp[lk]);obtain⟨s',hK,hrs2,hH⟩:=hrs1.put (dst:=o1.dst) (K:=λs'=>s'=⟨.al ((t2,v)::(t,v)::Ec 0 caps),H,N caps+(fn.ntmps-N caps)⟩) hev hh (eA _ _ _) (by rw[hd1];exact⟨ht2,rfl⟩);subst hK;show rest.wpS P _ _ _ _;refine wpS_of_wp<|h rest cr F bs _ w hrs2 bs H w Z (eA _ _ _) _ λe s' bs' a' w' hk hrs hext hdf=>?_;obtain⟨hne,rfl⟩:=hk;have hput:∀(a:Act) (dst:Option Tmp) (v:Value),(a.put dst v).defers=a.defers:=λa dst v=>AA;have hdn:a'.defers=[]:=by grind
 have fin:∃u',({c₀ with mode:=.panicking [{v:=cv,recovered:=true}]}::cs:List Frame)={c₀ with mode:=u'}::cs∧∃r,(results fn a'.tmps).run P w'= .ok r w'∧(Ending.returned r= .returned (.tuple #[])∧u'= .panicking [{v:=cv,recovered:=true}]∧∃bs',Ae W0 F bs' s'.H w'∧Ext bs H w bs' s'.H w'):=⟨_,rfl,.tuple #[],by simp[results,hres],rfl,rfl,bs',hrs.heap,hext⟩;cases e with|normal=>exact⟨hdn,fin⟩|ret=>exact⟨hdn,fin⟩|exit id=>exact hne.elim
theorem A5.of_rec2 (hg:Gr P W0 G){f:FuncId}{fn:Func}{r0 r1 rest:Code}{a0 a1 ar:ACode}{id t:Nat}{g:FuncId}{ops:Array Oper}{o0 o1:Oper}{ao:AOper}(hf:P.funcs[f]?=some fn)(hb:fn.body=some (.seq r0<|.seq r1<|.seq (.region id ops false) rest))
 (hnm:fn.name≠ "runtime.NumGoroutine") (hgb:E1 P g) (c0:Bo P r0=some a0) (c1:Bo P r1=some a1) (cr:Bo P rest=some ar) (co:B5 P ops o0=some ao)
 (hops:ops= #[o0,o1]) (h1g:o1.guard=none) (h1d:o1.dst=none) (h1c:∃c,o1.op= .defer c∧c.callee= .value (.tmp t)∧c.args= #[])
 {args:List AVal}{H:Hz}{v vo:AVal}{Ho:Hz} (hl:N args≤4094) {n:Nat} (hn:N args+(fn.ntmps-N args)=n) {rl:List ResultVar} (hrl:fn.results.toList=rl)
 (h:ExM P W0 (N H) a0 ⟨.al (Ec 0 args),H,n⟩ λe s0=>e= .normal∧ExM P W0 (N H) a1 s0 λe s1=>e= .normal∧Hj P W0 G ao s1 λs2=>∃caps,s2.env.get t=some (.fn g [] caps)∧
  ExP P W0 (N s2.H) ar s2 v λs3=>∃H2,FB P W0 g caps v s3.H H2∧∃vs,Dk P ⟨s3.env,H2,s3.n⟩ rl=some vs∧Ls (N H) (Cb vs) H2=(vo,Ho)):
 A5 P W0 f args H vo Ho:=by
 subst hn;subst hrl;exact A5.of_rec hg hf hb hnm hgb c0 c1 cr co hops h1g h1d h1c hl h
end
def only (j0:Nat)(l:List AOper):Bool:=bB j0 (N l)&&(eD<|N l).all λj=>match l[j]? with
 |some a=>cond (aA j j0) (bK 2 a.op.kind) (aA a.op.kind 0)|none=>true
theorem R8 {Q:Nat→Prop}:∀{l acc new:List Nat},(∀x∈l,Q x)→(∀x∈acc,Q x)→(∀x∈new,Q x)→(∀x∈(R2 l acc new).1,Q x)∧∀x∈(R2 l acc new).2,Q x
 | [],acc,new,_,h2,h3=>⟨h2,h3⟩
 |y::r,acc,new,h1,h2,h3=>by
  have hy:=h1 y B4;have hr:∀x∈r,Q x:=λx hx=>h1 x (by simp[hx]);simp only[R2];cases IC y acc with
  |true=>exact R8 hr h2 h3
  |false=>
   refine R8 hr (λx hx=>?_)<|λx hx=>?_;·grind
   ·grind
theorem Rw {Q:Nat→Prop}{p:SP}(hs:∀σ,Q σ→∀j∈p.steps σ,Q<|eR σ j):∀{f:Nat}{todo acc:List Nat},(∀x∈todo,Q x)→(∀x∈acc,Q x)→∀x∈S4 p f todo acc,Q x
 |0,_,_,_,h2=>h2|_+1,[],_,_,h2=>h2
 |f+1,σ::todo,acc,h1,h2=>by
  have hσ:=h1 σ B4;have hn:∀x∈(p.steps σ).map (eR σ),Q x:=λx hx=>by grind
  have ha:=R8 (Q:=Q) hn h2 (new:=[]) (λx hx=>by simp at hx);simp only[S4];cases he:R2 ((p.steps σ).map<|eR σ) acc []with
  |mk acc' new=>
   rw[he]at ha;refine Rw hs (λx hx=>?_) ha.1;rcases eG.1 hx with h|h;·grind
   ·grind
section
variable {P : Program} {W0 : World} {G : List (Nat × AVal)}
theorem Xr {masks:List Nat}{j:Nat}:∀(l:List Edge) (m:Nat),m<2^j→(∀e∈l,cond (eC .any e) (bB e.on j) true=true)→(∀i,i<j→masks.getD i 0<2^i)→
 l.foldl (λm e=>cond (eC .any e) (Nat.lor (Nat.lor m<|Nat.shiftLeft 1 e.on)<|masks.getD e.on 0) m) m<2^j
 | [],m,hm,_,_=>hm
 |e::l,m,hm,hl,hi=>by
  simp only[List.foldl_cons];refine Xr l _ ?_ (λx hx=>hl x (by simp[hx])) hi;have he:=hl e B4;cases hb:eC .any e with
  |false=>exact hm
  |true=>
   rw[hb,cond_true]at he;have hlt:e.on<j:=by simp_all
   rw[cond_true];refine Nat.or_lt_two_pow (Nat.or_lt_two_pow hm ?_) ?_;·simp_all[Nat.one_shiftLeft,Nat.pow_lt_pow_right]
   ·grind[Nat.lt_of_lt_of_le,fG]
theorem JO {ops:Array Oper}{p:SP}(hsp:It P ops p=true):∀j,j<ops.size→p.mask.getD j 0<2^j:=by intro j;induction j using Nat.strongRecOn with|_ j ih=>intro hj;have h0:=hsp;simp only[It,bAt]at h0;have:=eB.1 h0.2 j<|fC.2 hj;rw[eE hj]at this;simp only[T9,bAt]at this;rw[nBq this.1.1.2];unfold Me;exact Xr _ 0 (Nat.two_pow_pos j) (λe he=>eB.1 this.1.1.1 e he)<|λi hi=>ih i hi Y
theorem P7 {o:AOper}{s:St}{K K':AVal→Hz→Prop}(h:Bj P W0 G o s K)(hk:∀v H',K v H'→K' v H'):Bj P W0 G o s K':=by
 have hr:∀{H:Hz}{r:Option ARes},Ic P W0 H r K→Ic P W0 H r K':=λ{H r} h=>by unfold Ic at h⊢;grind
 unfold Bj at h⊢;split at h<;>grind
theorem Td {ops:Array Oper}{o:Oper}{a:AOper}(hc:B5 P ops o=some a):Au P o.op=some a.op:=by grind[B5]
theorem Nw {j0:Nat}:∀{n:Nat},j0<n→(eD n).filter (λj=>j==j0)=[j0]
 |0,h=>Hq
 |n+1,h=>by
  rw[List.range_succ,List.filter_append];by_cases he:j0=n;·grind[List.filter_eq_nil_iff]
  ·rw[Nw Y];grind
variable (P W0 G) in
def H8 :List AOper→St→(St→Prop)→Prop
 | [],s,K=>K s|o::r,s,K=>Bj P W0 G o s λv H'=>E7 o.dst s.n=true∧(bK 2 o.op.kind=false→H'=s.H)∧H8 r ⟨Ep o.dst v s.env,H',s.n⟩ K
theorem Tu {p:SP}{j0:Nat}(hfin:p.fin=eR 0 j0)(hs0:p.steps 0=[j0])(hs1:p.steps (eR 0 j0)=[])(hst:∀σ∈p.states,σ=0∨σ=eR 0 j0)(hne:eR 0 j0≠0):
 ∀{l:List AOper}{j:Nat}{s:St}{K:St→Prop}{M:HMap},(∀k a,l[k]?=some a→p.kind.getD (j+k) 0=a.op.kind)→(∀k a,l[k]?=some a→cond (aA (j+k) j0) (bK 2 a.op.kind) (aA a.op.kind 0)=true)→
  H8 P W0 G l s K→(j≤j0→j0<j+N l→M=[(0,s.H)]→C7 P W0 G p l j 0 M [] s K)∧(j0<j→E0 0 M=true→E0 (eR 0 j0) M=true→C7 P W0 G p l j (eR 0 j0) M [] s K)
 | [],j,s,K,M,_,_,h=>by refine⟨λh1 h2=>by grind,λ_ k0 k1=>⟨?_,h⟩⟩;rw[hfin,hs1,fY];simp only[nEq,Bool.and_self,Bool.true_and];grind
 |o::r,j,s,K,M,hk,ho,h=>by
  have k0:=hk 0 o Z;have o0:=ho 0 o Z;rw[Nat.add_zero]at k0 o0;have hkr:∀k a,r[k]?=some a→p.kind.getD (j+1+k) 0=a.op.kind:=λk a ha=>by have:=hk (k+1) a (by grind);grind
  have hor:∀k a,r[k]?=some a→cond (aA (j+1+k) j0) (bK 2 a.op.kind) (aA a.op.kind 0)=true:=λk a ha=>by have:=ho (k+1) a (by grind);grind
  unfold H8 at h;obtain⟨v,H',h1,h2,h3,h4⟩:=Ph h;have heff:p.eff j=bK 2 o.op.kind:=by grind[SP.eff]
  refine⟨λc1 c2 c3=>?_,λc1 c2 c3=>?_⟩
  ·by_cases hj:j=j0
   ·subst hj;rw[fY,cond_true]at o0;unfold C7;refine P7 h1 λv' X hx=>?_;obtain⟨rfl,rfl⟩:=hx;refine⟨h2,?_⟩;rw[heff,o0,cond_true];refine⟨?_,O,?_⟩;·rw[hs0,c3];simp only[nEq,fY,cond_true,E0,Bool.true_and];grind[cV]
    ·exact(Tu hfin hs0 hs1 hst hne hkr hor h4).2 Y (by grind[K8]) (K8.2<|.inl Z)
   ·rw[show aA j j0=false from by grind[cV],cond_false]at o0;have hz:=nBq o0;have hb2:bK 2 o.op.kind=false:=by rw[hz];rfl
    have hH:=h3 hb2;subst hH;unfold C7;refine P7 h1 λv' X hx=>?_;obtain⟨rfl,rfl⟩:=hx;refine⟨h2,?_⟩;rw[heff,hb2,cond_false,k0,hz];refine⟨Z,O,?_⟩;exact(Tu hfin hs0 hs1 hst hne hkr hor h4).1 Y (by grind) c3
  ·have hj:j≠j0:=by omega
   rw[show aA j j0=false from by grind[cV],cond_false]at o0;have hz:=nBq o0;have hb2:bK 2 o.op.kind=false:=by rw[hz];rfl
   have hH:=h3 hb2;subst hH;unfold C7;refine P7 h1 λv' X hx=>?_;obtain⟨rfl,rfl⟩:=hx;refine⟨h2,?_⟩;rw[heff,hb2,cond_false,k0,hz];refine⟨Z,O,?_⟩;exact(Tu hfin hs0 hs1 hst hne hkr hor h4).2 Y c2 c3
theorem nxt_bit {σ j:Nat}:tb (eR σ j) j=true:=by show((σ|||(1<<<j)).testBit j)=true;grind
theorem ExM.draw1 (hg:Gr P W0 G){m:Nat}{l:List AOper}{b:Bool}(j0:Nat)(hone:only j0 l=true){s:St}{K:Aj→St→Prop}(h:H8 P W0 G l s<|K .normal):ExM P W0 m (.draw l b) s K:=ExM.of λc hc=>by
 obtain⟨id,ops,rfl,hc1,hsp,_⟩:=Nb hc;obtain⟨hcl,hcg⟩:=D4 hc1;have hsz:N l=ops.size:=Y;simp only[only,bAt]at hone;have hj0:j0<N l:=by simp_all
 have hon:∀k a,l[k]?=some a→_root_.cond (aA k j0) (bK 2 a.op.kind) (aA a.op.kind 0)=true:=λk a ha=>by grind
 have h0:=hsp;simp only[It,bAt]at h0;have hn:(Ey P ops.toList).n=ops.size:=nBq h0.1.1.1.1;have hkind:∀k a,l[k]?=some a→(Ey P ops.toList).kind.getD k 0=a.op.kind:=λk a ha=>by
  have hk:k<ops.size:=by grind
  have ho:ops.toList[k]?=some ops[k]:=by simp[hk]
  obtain⟨a',ha',hca⟩:=hcg k _ ho;rw[ha]at ha';injection ha' with ha';subst ha';have:=eB.1 h0.2 k<|fC.2 hk;rw[eE hk]at this;simp only[T9,bAt]at this;grind[cV,E4,Td]
 have heff:∀j,j<ops.size→(Ey P ops.toList).eff j=true→j=j0:=λj hj he=>by have ha:l[j]?=some (l[j]'(Y)):=gGe _;unfold SP.eff at he;rw[hkind j _ ha]at he;have:=hon j _ ha;cases hb:aA j j0 with|true=>exact nBq hb|false=>rw[hb,cond_false]at this;rw[nBq this]at he;cases he
 have heff0:(Ey P ops.toList).eff j0=true:=by have ha:l[j0]?=some (l[j0]'hj0):=gGe _;have:=hon j0 _ ha;simp_all[SP.eff]
 have hbit:=nxt_bit (σ:=0) (j:=j0);have hne:eR 0 j0≠0:=λe=>by grind[tb]
 have hself:(Ey P ops.toList).msk j0 j0=false:=by grind[SP.msk,tb,hY,JO]
 have hstep:∀σ j,j∈(Ey P ops.toList).steps σ→j=j0∧tb σ j0=false:=λσ j hj=>by unfold SP.steps at hj;grind
 have hs1:(Ey P ops.toList).steps (eR 0 j0)=[]:=by rw[List.eq_nil_iff_forall_not_mem];grind
 have hmay:(Ey P ops.toList).mayB 0 j0=true:=(X9 (p:=Ey P ops.toList) (Nx:=ops.size) hn).2 (And.intro (λi hi he hm=>absurd hm (by grind)) (λi _ _ _=>by simp[tb]));have hs0:(Ey P ops.toList).steps 0=[j0]:=by grind[SP.steps,Ey,tb,List.filter_congr,Nw]
 have hst:∀σ∈(Ey P ops.toList).states,σ=0∨σ=eR 0 j0:=by refine Rw (Q:=λσ=>σ=0∨σ=eR 0 j0) (λσ hσ j hj=>?_) B4 B4;have hj':j∈(Ey P ops.toList).steps σ:=hj;grind
 have hfin:(Ey P ops.toList).fin=eR 0 j0:=by
  have hin:eR 0 j0∈(Ey P ops.toList).states:=by grind[Iw]
  have h4:=eB.1 h0.1.2 _ hin;have hall:(Ey P ops.toList).allIn (eR 0 j0)=true:=by unfold SP.allIn;grind
  rw[hall,cond_true]at h4;grind[cV]
 refine Go.Abs.drawC hg.mixed hg.g hc1 hsp ?_;exact(Tu hfin hs0 hs1 hst hne (j:=0) (M:=[(0,s.H)]) (λk a ha=>by grind) (λk a ha=>by grind) h).1 (hZ _) Y Z
variable {l : List (Nat × AVal)} {H H' : Hz} {n : Nat} {K : St → Prop} {r : List AOper}
theorem J0 {d:Nat}{op:AOp}{v:AVal}{side:List (Int×Int)}(h:aop G ⟨.al l,H,n⟩ op=some (.val v H side))(hd:(bB d n&&bB d 4094)=true)(hs:Ah side)(k:H8 P W0 G r ⟨.al ((d,v)::l),H,n⟩ K):H8 P W0 G (⟨some d,none,op⟩::r) ⟨.al l,H,n⟩ K:=by simp only[H8,Bj,h];exact⟨hs,hd,λ_=>Z,k⟩
theorem PO {d:Nat}{op:AOp}{f:Nat}{args:List AVal}{v:AVal}(h:aop G ⟨.al l,H,n⟩ op=some (.call f args))(hd:(bB d n&&bB d 4094)=true)(hk:bK 2 op.kind=true)(hc:A5 P W0 f args H v H')(k:H8 P W0 G r ⟨.al ((d,v)::l),H',n⟩ K):H8 P W0 G (⟨some d,none,op⟩::r) ⟨.al l,H,n⟩ K:=by simp only[H8,Bj,h];exact⟨v,H',hc,hd,λe=>(by grind),k⟩
theorem wKv {d:Nat}{op:AOp}{v v0:AVal}{side:List (Int×Int)}(h:aop G ⟨.al l,H,n⟩ op=some (.val v0 H side))(hd:(bB d n&&bB d 4094)=true)(hs:Ah side)(hv:v0=v)(k:H8 P W0 G r ⟨.al ((d,v)::l),H,n⟩ K):H8 P W0 G (⟨some d,none,op⟩::r) ⟨.al l,H,n⟩ K:=by grind[J0]
theorem wBk {d:Nat}{op:AOp}{b c:Bool}(h:aop G ⟨.al l,H,n⟩ op=some (.val (.bool b) H []))(hd:(bB d n&&bB d 4094)=true)(hb:b=c)(k:H8 P W0 G r ⟨.al ((d,.bool c)::l),H,n⟩ K):H8 P W0 G (⟨some d,none,op⟩::r) ⟨.al l,H,n⟩ K:=by subst hb;exact J0 h hd trivial k
theorem SF (h:K ⟨.al l,H,n⟩):H8 P W0 G [] ⟨.al l,H,n⟩ K:=h
end
section
variable {P : Program} {W0 : World} {m : Nat} {c : ACode} {v : AVal} {K : St → Prop}
theorem ExP.fh {a:ACode}{s1 s2:St}(hf:Fh m s1 s2)(h:ExP P W0 m a s1 v K):ExP P W0 m a s2 v K:=λc hc F bs x w hs bs0 H0 w0 hm he Q hq=>by obtain⟨bs',h1,h2⟩:=hs.fh hf he hm;exact h c hc F bs' x w h1 bs0 H0 w0 hm h2 Q hq
theorem NC.fh {s1 s2:St}(hf:Fh m s1 s2):∀{n:Nat},NC P W0 m c v K n s1→NC P W0 m c v K n s2
 |0,h=>h|_+1,h=>h.elim (λh=>.inl<|ExP.fh hf h) λh=>.inr<|ExM.fh hf h
end
theorem J5.frame {P:Program}{W0:World}{f:FuncId}{args:List AVal}{H0 H0':Hz}{v:AVal}(hbH:B7 (N H0) H0=true)(hba:A8 (N H0) args=true)(hl:N H0'=N H0)(hc:J5 P W0 f args H0 v H0')(X:Hz):J5 P W0 f args (H0++X) v (H0'++X):=Jw.frame (wr:=λv=>.panicked<|pch v) hbH hba hl hc X
section
variable {P : Program} {W0 : World} {G : List (Nat × AVal)}
variable (P W0 G) in
def Ug (j0 d0:Nat)(v:AVal)(H2:Hz):Nat→List AOper→St→Prop
 |_,[],_=>True
 |j,o::r,s=>E7 o.dst s.n=true∧
  ((j=j0∧o.dst=some d0∧o.guard=none∧(∃f args,aop G s o.op=some (.call f args)∧J5 P W0 f args s.H v H2)∧Ug j0 d0 v H2 (j+1) r ⟨Ep o.dst .nilIf s.env,s.H,s.n⟩)∨
  (j0<j∧o.op.tmps.contains d0=true∧Ug j0 d0 v H2 (j+1) r ⟨Ep o.dst .nilIf s.env,s.H,s.n⟩)∨
  (j≠j0∧Bj P W0 G o s λu H'=>H'=s.H∧Ug j0 d0 v H2 (j+1) r ⟨Ep o.dst u s.env,s.H,s.n⟩))
theorem Wx {j0 d0:Nat}{v:AVal}{H2:Hz}:∀{l:List AOper}{i:Nat}{s:St},Ug P W0 G j0 d0 v H2 i l s→∃vs:List AVal,N vs=N l∧
 ∀(j:Nat) (a:AOper),l[j]?=some a→∃u,vs[j]?=some u∧E7 a.dst s.n=true∧Ds l vs s.env (j+1)=Ep a.dst u (Ds l vs s.env j)∧
  ((i+j=j0∧a.dst=some d0∧a.guard=none∧∃f args,aop G ⟨Ds l vs s.env j,s.H,s.n⟩ a.op=some (.call f args)∧J5 P W0 f args s.H v H2)∨(j0<i+j∧a.op.tmps.contains d0=true)∨
  (i+j≠j0∧Bj P W0 G a ⟨Ds l vs s.env j,s.H,s.n⟩ λv' H'=>v'=u∧H'=s.H))
 | [],_,_,_=>⟨[],rfl,λj a h=>by simp at h⟩
 |o::r,i,s,h=>by
  have key:∀u,E7 o.dst s.n=true→Ug P W0 G j0 d0 v H2 (i+1) r ⟨Ep o.dst u s.env,s.H,s.n⟩→((i=j0∧o.dst=some d0∧o.guard=none∧∃f args,aop G s o.op=some (.call f args)∧J5 P W0 f args s.H v H2)∨(j0<i∧o.op.tmps.contains d0=true)∨(i≠j0∧Bj P W0 G o s λv' H'=>v'=u∧H'=s.H))→∃vs:List AVal,N vs=N (o::r)∧∀(j:Nat) (a:AOper),(o::r)[j]?=some a→∃u,vs[j]?=some u∧E7 a.dst s.n=true∧Ds (o::r) vs s.env (j+1)=Ep a.dst u (Ds (o::r) vs s.env j)∧
   ((i+j=j0∧a.dst=some d0∧a.guard=none∧∃f args,aop G ⟨Ds (o::r) vs s.env j,s.H,s.n⟩ a.op=some (.call f args)∧J5 P W0 f args s.H v H2)∨(j0<i+j∧a.op.tmps.contains d0=true)∨
   (i+j≠j0∧Bj P W0 G a ⟨Ds (o::r) vs s.env j,s.H,s.n⟩ λv' H'=>v'=u∧H'=s.H)):=λu hd hr hc=>by
   obtain⟨vs,k1,k3⟩:=Wx hr;refine⟨u::vs,by simp[k1],λj a hj=>?_⟩;cases j with
   |zero=>simp only[eV,iS]at hj;subst hj;refine⟨u,Z,hd,?_,hc⟩;show Ds r vs _ 0=_;cases r<;>cases vs<;>rfl
   |succ j=>simp only[eT]at hj⊢;rw[show i+(j+1)=i+1+j by omega];exact k3 j a hj
  obtain⟨hd,h⟩:=h;rcases h with⟨h1,h2,h3,h4,h5⟩|⟨h1,h2,h3⟩|⟨h1,h2⟩;·exact key _ hd h5<|.inl ⟨h1,h2,h3,h4⟩
  ·exact key _ hd h3<|.inr<|.inl ⟨h1,h2⟩
  ·obtain⟨u,H',e1,e2,e3⟩:=Ph h2;subst e2;exact key u hd e3<|.inr<|.inr ⟨h1,e1⟩
theorem ExP.draw (hg:Gr P W0 G){m:Nat}{l:List AOper}{b:Bool}(j0:Nat){d0:Nat}{s:St}{v:AVal}{H2:Hz}{K:St→Prop}(hj:j0<N l)(h:Ug P W0 G j0 d0 v H2 0 l s)(hK:∀e,K ⟨e,H2,s.n⟩):ExP P W0 m (.draw l b) s v K:=λc hc=>by
 obtain⟨id,ops,rfl,hc1,hsp,_⟩:=Nb hc;obtain⟨hcl,hcg⟩:=D4 hc1;obtain⟨vs,r1,r3⟩:=Wx h;have hsz:N l=ops.size:=bY208;have hml:=JO hsp;generalize Ey P ops.toList=sp at hsp hml;simp only[It,bAt]at hsp;obtain⟨⟨⟨⟨k1,k2⟩,k3⟩,k4⟩,k5⟩:=hsp;have hN:sp.n=ops.size:=nBq k1;have hat1:∀(j:Nat) (o:Oper),ops[j]?=some o→(∀e∈o.after,eC .any e=true→e.on<j)∧sp.mask.getD j 0=Me sp.mask o∧
  ∀(i:Nat) (oi:Oper) (d:Nat),ops[i]?=some oi→oi.dst=some d→(i=j∨o.dst≠some d)∧(d∈reads P ops o→sp.msk j i=true∨sp.msk i j=true):=by
  intro j o ho;have:=eB.1 k5 j<|fC.2 (dZ.1 ho).1;rw[ho]at this;simp only[T9,bAt]at this;obtain⟨⟨⟨a1,a2⟩,a3⟩,a4⟩:=this;refine⟨λe he hb=>?_,nBq a2,λi oi d hi hd=>?_⟩;·have:=eB.1 a1 e bY191;rw[hb,cond_true,gZ]at this;exact this
  ·have:=eB.1 a4 i<|fC.2 (by rw[hN];exact(dZ.1 hi).1);rw[hi]at this;simp only[Option.bind_some,hd,bAt,eI]at this;obtain⟨b1,b2⟩:=this;refine⟨?_,λhr=>?_⟩
   ·rcases b1 with b1|b1;·exact .inl (nBq b1)
    ·refine .inr λhod=>?_;unfold Zh at b1;rw[hod]at b1;simp at b1
   ·have:=eB.1 b2 d hr;rw[show aA d d=true from fY d,cond_true,eI]at this;exact this
 have hget:∀(j:Nat) (o:Oper),ops[j]?=some o→∃a u,B5 P ops o=some a∧vs[j]?=some u∧E7 o.dst s.n=true∧Ds l vs s.env (j+1)=Ep o.dst u (Ds l vs s.env j)∧
  ((j=j0∧o.dst=some d0∧a.guard=none∧∃f args,aop G ⟨Ds l vs s.env j,s.H,s.n⟩ a.op=some (.call f args)∧J5 P W0 f args s.H v H2)∨(j0<j∧a.op.tmps.contains d0=true)∨(j≠j0∧Eu P W0 G ops o ⟨Ds l vs s.env j,s.H,s.n⟩ λv' H'=>v'=u∧H'=s.H)):=by
  intro j o ho;obtain⟨a,ha,hca⟩:=hcg j o bY76;obtain⟨u,b1,b2,b3,b4⟩:=r3 j a ha;rw[D8 hca]at b2 b3 b4;rw[bS]at b4;exact⟨a,u,hca,b1,b2,b3,b4.imp (λh=>h)<|Or.imp (λh=>h) λh=>⟨h.1,H7 hca h.2⟩⟩
 have ho0:ops[j0]?=some (ops[j0]'(Y)):=eE _;have hd0:(ops[j0]'(Y)).dst=some d0:=by
  obtain⟨a,u,_,_,_,_,h|h|h⟩:=hget j0 _ ho0;·exact h.2.1
  ·omega
  ·exact absurd Z h.1
 let p:Plan:={v:=λj=>(vs[j]?).getD .nilIf,eff:=λj=>aA j j0,ok:=λσ=>σ=0,dn:=λ_ _=>false,nxt:=λ_ _=>0,fin:=0,Hs:=λ_=>s.H,mask:=sp.msk,env:=Ds l vs s.env};have hp:S1 P W0 G ops s p λj=>aA j j0:=by
  refine⟨λj o ho=>(hat1 j o ho).1,λj o i ho hm=>?_,λi j oi oj t hi hj h1 h2=>?_,λj oj t hj ht i oi hi hti=>((hat1 j oj hj).2.2 i oi t hi hti).2 ht,?_,λi o ho=>?_,Z,λ_ _ _=>Z,Z,λj o ho hef σ hσ hm=>?_,λj o ho hef σ hσ hdn hm hb=>?_,λσ hσ hall=>Z,λj o ho=>?_,λi h=>⟨h,λ_ _=>Z⟩⟩;·have h2:=(hat1 j o ho).2.1;have hm':tb (sp.mask.getD j 0) i=true:=hm;rw[h2]at hm';exact M9 hm'
  ·rcases((hat1 j oj hj).2.2 i oi t hi h1).1 with h'|h';·exact h'
   ·exact absurd h2 h'
  ·show Ds l vs s.env 0=s.env;cases l<;>cases vs<;>rfl
  ·obtain⟨a,u,_,b1,b2,b3,_⟩:=hget i o ho;show Ds l vs s.env (i+1)=Ep o.dst ((vs[i]?).getD .nilIf) (Ds l vs s.env i);rw[b3,b1];rfl
  ·obtain⟨a,u,hca,b1,b2,b3,h|h|h⟩:=hget j o ho;·rw[h.1]at hef;simp[p]at hef
   ·have hr:d0∈reads P ops o:=by have:=Td hca;unfold reads;rw[this];exact eG.2 (.inr (by simpa using h.2))
    have hlt:j<ops.size:=(dZ.1 ho).1;rcases((hat1 j o ho).2.2 j0 _ d0 ho0 hd0).2 hr with q|q;·have:=hm.1 j0 Y (fY j0) q;cases this
    ·have:=hml j0 Y;have h2:sp.mask.getD j0 0<2^j:=nLl this<|fG Y Y;have h3:(sp.mask.getD j0 0).testBit j=false:=hY h2;have q':(sp.mask.getD j0 0).testBit j=true:=q;rw[h3]at q';cases q'
   ·show Eu P W0 G ops o ⟨Ds l vs s.env j,s.H,s.n⟩ λv' H'=>v'=(vs[j]?).getD .nilIf∧H'=s.H;rw[b1];exact h.2
  ·have:aA j j0=true:=hef;have hb:aA j j0=false:=hb;rw[this]at hb;cases hb
  ·obtain⟨a,u,_,b1,b2,_⟩:=hget j o ho;exact b2
 intro F bs x w hs bs0 H0 w0 hm he Q hq;refine LJ hg.mixed hg.g hp hs (λj o ho hb bs' e c a' w' R hrs _ hrd hext hdf=>?_)<|λhn=>?_
 ·have hjj:=nBq hb;subst hjj;obtain⟨a,u,hca,_,_,_,h|h|h⟩:=hget j o ho
  ·obtain⟨_,_,hgd,f,args,h1,hcp⟩:=h;have hca':B5 P ops o=some ⟨a.dst,none,a.op⟩:=by rw[←hgd];exact hca
   obtain⟨_,hgd',hop⟩:=U6 hca';have h2:aop G ⟨e,s.H,s.n⟩ a.op=some (.call f args):=by rw[←Ud (e:=Ds l vs s.env j) (λt ht=>hrd t (by unfold reads;rw[hop];exact eG.2<|.inr ht))];exact h1
   unfold wpOp;rw[ho];simp only;have hw:eO o (yielded ops a'.tmps)=true:=by simp[eO,hgd']
   rw[if_pos hw];refine .inl ?_;obtain⟨cargs,q1,q2⟩:=(Ut (P:=P) hg.g hrs hop h2) hcp.1;unfold Oper.wp;rw[q1,Oper.upon_enter];refine eU (hcp.2 F bs' w' cargs hrs.heap q2) λe' w2 he'=>?_;obtain⟨cv,bs2,rfl,k3,k4,k5⟩:=he';exact hq cv ⟨e,H2,s.n⟩ bs2 a' w2 (hK e) ⟨k4,hrs.size,λt u hu=>Rep.ext k5 u _<|hrs.env t u hu⟩ k3 ((he.trans hext).trans k5) hdf
  ·omega
  ·exact absurd Z h.1
 ·have:=hn j0 Y;rw[fY]at this;cases this
variable {l : List (Nat × AVal)} {H H2 : Hz} {n j0 d0 j d : Nat} {v u : AVal} {r : List AOper} {op : AOp} {side : List (Int × Int)}
end
section
variable {P : Program} {W0 : World} {G : List (Nat × AVal)}
theorem A5.of_idle2 (hg:Gr P W0 G){f:FuncId}{fn:Func}{r0 r1 rest:Code}{a0 a1 ar:ACode}{id t:Nat}{g:FuncId}{ops:Array Oper}{o0 o1:Oper}{ao:AOper}(hf:P.funcs[f]?=some fn)(hb:fn.body=some (.seq r0<|.seq r1<|.seq (.region id ops false) rest))
 (hnm:fn.name≠ "runtime.NumGoroutine") {k:Nat} (hidle:Ql P g k) (hgb:E1 P g) (c0:Bo P r0=some a0) (c1:Bo P r1=some a1) (cr:Bo P rest=some ar) (co:B5 P ops o0=some ao)
 (hops:ops= #[o0,o1]) (h1g:o1.guard=none) (h1d:o1.dst=none) (h1c:∃c,o1.op= .defer c∧c.callee= .value (.tmp t)∧c.args= #[])
 {args:List AVal}{H:Hz}{vo:AVal}{Ho:Hz} (hl:N args≤4094) {n:Nat} (hn:N args+(fn.ntmps-N args)=n) {rl:List ResultVar} (hrl:fn.results.toList=rl)
 (h:ExM P W0 (N H) a0 ⟨.al (Ec 0 args),H,n⟩ λe s0=>e= .normal∧ExM P W0 (N H) a1 s0 λe s1=>e= .normal∧Hj P W0 G ao s1 λs2=>(∃caps,s2.env.get t=some (.fn g [] caps)∧N caps=k)∧
  ExM P W0 (N H) ar s2 λe s3=>(match e with|.exit _=>False|_=>True)∧∃vs,Dk P s3 rl=some vs∧((Cb vs=vo∧s3.H=Ho)∨(B7 (N H) (s3.H.take (N H))=true∧(∃m,frz s3.H (N H) m (Cb vs)=some vo)∧s3.H.take (N H)=Ho))):
 A5 P W0 f args H vo Ho:=by
 subst hn;subst hrl;refine⟨⟨fn,_,hf,hb,hnm⟩,λF bs w cargs hh hr=>?_⟩;refine calls_of_wp_defers hf hb ?_;have hrs:=F8 hh hr hl fn.ntmps;have hrs':RS W0 F bs ⟨.al<|Ec 0 args,H,N args+(fn.ntmps-N args)⟩ {tmps:=cargs.toArray++fE (fn.ntmps-cargs.toArray.size) undef,defers:=[]} w:=
  ⟨hrs.heap,hrs.size,λt u hu=>hrs.env t u (by
   rw[Df args 0 .leaf t Y];have hu:lk t (Ec 0 args)=some u:=hu;rw[I5]at hu;by_cases hc:0≤t∧t<0+N args;·rw[if_pos hc]at hu⊢;exact hu
   ·rw[if_neg hc]at hu;cases hu)⟩
 refine wp_seq<|h r0 c0 F bs _ w hrs' bs H w Z (eA _ _ _) _ λe s0 bs0 a0' w0 hk hrs0 hext0 hd0=>?_;obtain⟨rfl,hk⟩:=hk;show(iD r1 _).wp P _ a0' w0;refine wp_seq<|hk r1 c1 F bs0 a0' w0 hrs0 bs H w Z hext0 _ λe s1 bs1 a1' w1 hk hrs1 hext1 hd1=>?_;obtain⟨rfl,hk⟩:=hk;show(iD _ rest).wp P _ a1' w1;refine wp_seq<|S9 hg.g hops h1g h1d h1c hrs1 (Nq co hk) λs2 bs2 a2 w2 cap hcap hk hrs2 hext2 hd2=>?_;show rest.wp P _ a2 w2;refine hk rest cr F bs2 a2 w2 hrs2 bs H w Z (hext1.trans hext2) _ λe s' bs' a' w' hk hrs hext hd=>?_;obtain⟨hne,vs,hvs,hlv⟩:=hk;obtain⟨cv,h1,h2⟩:=Es hrs hvs;obtain⟨bs'',h3,h4,h5⟩:=Js hrs.heap hext h2 hlv;have hdef:a'.defers=[⟨.fn (.func g) cap.toArray,#[]⟩]:=by rw[hd,hd2,hd1,hd0]
 have hinv:(invoke (.fn (.func g) cap.toArray) #[]).run P w'= .ok (.enter g cap.toArray) w':=by obtain⟨fg,cg,k1,k2,k3⟩:=hgb;show(callFunc g<|#[]++cap.toArray).run P w'=_;simp[callFunc,k1,k2,k3,mark]
 have fin:Leaves P fn a'.tmps (λe w'=>∃cv bs',e= .returned cv∧Rep F bs' Ho w' vo cv∧Ae W0 F bs' Ho w'∧Ext bs H w bs' Ho w') a'.defers .returning w':=by rw[hdef];refine⟨B4,.func g,cap.toArray,g,cap.toArray,Z,hinv,?_⟩;refine(hidle cap w' hcap).mono ?_;rintro e u' w'' ⟨rfl,rfl,rfl⟩;exact⟨cv,h1,cv,bs'',Z,h3,h4,h5⟩
 cases e with|normal=>exact fin|ret=>exact fin|exit id=>exact hne.elim
theorem A5.of_idle1 (hg:Gr P W0 G){f:FuncId}{fn:Func}{r0 rest:Code}{a0 ar:ACode}{id t:Nat}{g:FuncId}{ops:Array Oper}{o0 o1:Oper}{ao:AOper}(hf:P.funcs[f]?=some fn)(hb:fn.body=some (.seq r0<|.seq (.region id ops false) rest))
 (hnm:fn.name≠ "runtime.NumGoroutine") {k:Nat} (hidle:Ql P g k) (hgb:E1 P g) (c0:Bo P r0=some a0) (cr:Bo P rest=some ar) (co:B5 P ops o0=some ao)
 (hops:ops= #[o0,o1]) (h1g:o1.guard=none) (h1d:o1.dst=none) (h1c:∃c,o1.op= .defer c∧c.callee= .value (.tmp t)∧c.args= #[])
 {args:List AVal}{H:Hz}{vo:AVal}{Ho:Hz} (hl:N args≤4094) {n:Nat} (hn:N args+(fn.ntmps-N args)=n) {rl:List ResultVar} (hrl:fn.results.toList=rl)
 (h:ExM P W0 (N H) a0 ⟨.al (Ec 0 args),H,n⟩ λe s1=>e= .normal∧Hj P W0 G ao s1 λs2=>(∃caps,s2.env.get t=some (.fn g [] caps)∧N caps=k)∧
  ExM P W0 (N H) ar s2 λe s3=>(match e with|.exit _=>False|_=>True)∧∃vs,Dk P s3 rl=some vs∧((Cb vs=vo∧s3.H=Ho)∨(B7 (N H) (s3.H.take (N H))=true∧(∃m,frz s3.H (N H) m (Cb vs)=some vo)∧s3.H.take (N H)=Ho))):
 A5 P W0 f args H vo Ho:=by
 subst hn;subst hrl;refine⟨⟨fn,_,hf,hb,hnm⟩,λF bs w cargs hh hr=>?_⟩;refine calls_of_wp_defers hf hb ?_;have hrs:=F8 hh hr hl fn.ntmps;have hrs':RS W0 F bs ⟨.al<|Ec 0 args,H,N args+(fn.ntmps-N args)⟩ {tmps:=cargs.toArray++fE (fn.ntmps-cargs.toArray.size) undef,defers:=[]} w:=
  ⟨hrs.heap,hrs.size,λt u hu=>hrs.env t u (by
   rw[Df args 0 .leaf t Y];have hu:lk t (Ec 0 args)=some u:=hu;rw[I5]at hu;by_cases hc:0≤t∧t<0+N args;·rw[if_pos hc]at hu⊢;exact hu
   ·rw[if_neg hc]at hu;cases hu)⟩
 refine wp_seq<|h r0 c0 F bs _ w hrs' bs H w Z (eA _ _ _) _ λe s1 bs1 a1' w1 hk hrs1 hext1 hd1=>?_;obtain⟨rfl,hk⟩:=hk;show(iD _ rest).wp P _ a1' w1;refine wp_seq<|S9 hg.g hops h1g h1d h1c hrs1 (Nq co hk) λs2 bs2 a2 w2 cap hcap hk hrs2 hext2 hd2=>?_;show rest.wp P _ a2 w2;refine hk rest cr F bs2 a2 w2 hrs2 bs H w Z (hext1.trans hext2) _ λe s' bs' a' w' hk hrs hext hd=>?_;obtain⟨hne,vs,hvs,hlv⟩:=hk;obtain⟨cv,h1,h2⟩:=Es hrs hvs;obtain⟨bs'',h3,h4,h5⟩:=Js hrs.heap hext h2 hlv;have hdef:a'.defers=[⟨.fn (.func g) cap.toArray,#[]⟩]:=by rw[hd,hd2,hd1]
 have hinv:(invoke (.fn (.func g) cap.toArray) #[]).run P w'= .ok (.enter g cap.toArray) w':=by obtain⟨fg,cg,k1,k2,k3⟩:=hgb;show(callFunc g<|#[]++cap.toArray).run P w'=_;simp[callFunc,k1,k2,k3,mark]
 have fin:Leaves P fn a'.tmps (λe w'=>∃cv bs',e= .returned cv∧Rep F bs' Ho w' vo cv∧Ae W0 F bs' Ho w'∧Ext bs H w bs' Ho w') a'.defers .returning w':=by rw[hdef];refine⟨B4,.func g,cap.toArray,g,cap.toArray,Z,hinv,?_⟩;refine(hidle cap w' hcap).mono ?_;rintro e u' w'' ⟨rfl,rfl,rfl⟩;exact⟨cv,h1,cv,bs'',Z,h3,h4,h5⟩
 cases e with|normal=>exact fin|ret=>exact fin|exit id=>exact hne.elim
end
end Go.Abs
namespace Go.Abs
open Go.Proofs Go.RowKit
abbrev cP (W:World)(f:FuncId)(x:List AVal)(H:Hz)(v:AVal)(H2:Hz):Prop:=A5 gH W f x H v H2
abbrev hGr (W:World)(G:List<|Nat×AVal):Prop:=Gr gH W G
end Go.Abs
namespace Go.Abs
open Go.Proofs Go.RowKit
set_option maxRecDepth 100000
noncomputable def cdF (f:Nat):AFn:=(Gs gH f).getD ⟨.skip,[],0⟩
section
variable {W0 : World} (f n : Nat) {args : List AVal} {H H' : Hz} {v : AVal} {B : Prop}
theorem goM (k:B)(h:Wrp B→ExM Tryz.prog W0 (N H) (cdF f).code ⟨.al<|Ec 0 args,H,n⟩ (Ja (cdF f).res (N H) v H'):=by intro wk;(conv=>arg 4;reduce;try dsimp only[Int.ofNat_eq_natCast,Int.cast_ofNat_Int]);exact wk.x)(hf:Gs Tryz.prog f=some (cdF f):=by kernel_rfl)(hl:N args≤4094:=by simp)(hn:N args+((cdF f).n-N args)=n:=by rfl):cP W0 f args H v H':=A5.of_fnM hf hl hn<|h ⟨k⟩
theorem goW (m:Nat)(k:B)(h:Wrp B→ExM Tryz.prog W0 m (cdF f).code ⟨.al<|Ec 0 args,H,n⟩ (Ja (cdF f).res m v H'):=by intro wk;(conv=>arg 4;reduce;try dsimp only[Int.ofNat_eq_natCast,Int.cast_ofNat_Int]);exact wk.x)(hf:Gs Tryz.prog f=some (cdF f):=by kernel_rfl)(hl:N args≤4094:=by simp)(hn:N args+((cdF f).n-N args)=n:=by rfl)(hm:N H=m:=by rfl):cP W0 f args H v H':=by subst hm;exact A5.of_fnM hf hl hn<|h ⟨k⟩
theorem goA (k:B)(h:Wrp B→ExA Tryz.prog W0 (cdF f).code ⟨.al<|Ec 0 args,H,n⟩ (Ja (cdF f).res (N H) v H'):=by intro wk;(conv=>arg 3;reduce;try dsimp only[Int.ofNat_eq_natCast,Int.cast_ofNat_Int]);exact wk.x)(hf:Gs Tryz.prog f=some (cdF f):=by kernel_rfl)(hl:N args≤4094:=by simp)(hn:N args+((cdF f).n-N args)=n:=by rfl):cP W0 f args H v H':=A5.of_fn hf hl hn<|h ⟨k⟩
theorem goE {Q:AVal→Prop}(k:B)(h:Wrp B→ExM Tryz.prog W0 0 (cdF f).code ⟨.al<|Ec 0 args,[],n⟩ λe s=>∃v,Q v∧Ja (cdF f).res 0 v [] e s:=by intro wk;(conv=>arg 4;reduce;try dsimp only[Int.ofNat_eq_natCast,Int.cast_ofNat_Int]);exact wk.x)(hf:Gs Tryz.prog f=some (cdF f):=by kernel_rfl)(hl:N args≤4094:=by simp)(hn:N args+((cdF f).n-N args)=n:=by rfl):Aw Tryz.prog W0 f args Q:=Aw.of_fnM hf hl hn<|h ⟨k⟩
theorem goQ {Q:AVal→Hz→Prop}(k:B)(h:Wrp B→ExM Tryz.prog W0 (N H) (cdF f).code ⟨.al<|Ec 0 args,H,n⟩ λe s=>∃v H',Q v H'∧Ja (cdF f).res (N H) v H' e s:=by intro wk;(conv=>arg 4;reduce;try dsimp only[Int.ofNat_eq_natCast,Int.cast_ofNat_Int]);exact wk.x)(hf:Gs Tryz.prog f=some (cdF f):=by kernel_rfl)(hl:N args≤4094:=by simp)(hn:N args+((cdF f).n-N args)=n:=by rfl):I8 Tryz.prog W0 f args H Q:=I8.of_fnM hf hl hn<|h ⟨k⟩
theorem goP (k:B)(h:Wrp B→ExP Tryz.prog W0 (N H) (cdF f).code ⟨.al<|Ec 0 args,H,n⟩ v λs'=>s'.H=H':=by intro wk;(conv=>arg 4;reduce;try dsimp only[Int.ofNat_eq_natCast,Int.cast_ofNat_Int]);exact wk.x)(hf:Gs Tryz.prog f=some (cdF f):=by kernel_rfl)(hl:N args≤4094:=by simp)(hn:N args+((cdF f).n-N args)=n:=by rfl):J5 Tryz.prog W0 f args H v H':=J5.of_fn hf hl hn<|h ⟨k⟩
end
end Go.Abs
namespace Go.Abs
open Go.Proofs Go.RowKit
set_option maxRecDepth 100000
variable {W0 : World} {G : List (Nat × AVal)}
structure RC where
 sn:Int
 rw:Int
 cl:Int
 kd:Int
 a0:Int
 a1:Int
 a2:Int
 b0:Int
 b1:Int
 b2:Int
 vk:Int
 vm:Int
 ve:Int
 vs:Bz
 vb:Bool
abbrev rcL (c:RC):List AVal:=[J U c.sn,J U c.rw,J U c.cl,J U c.kd,J U c.a0,J U c.a1,J U c.a2,J U c.b0,J U c.b1,J U c.b2,J U c.vk,J U c.vm,J U c.ve,S c.vs,I c.vb]
abbrev rcV (c:RC):AVal:=aG<|rcL c
def fmS (nb tb:Bool)(p q ar:Bz):Nat→Bz
 |0=>(([61]++p)++[43,49])|1=>((([61]++p)++[42])++q)|2=>(([61,83,85,77,40]++ar)++[41])|3=>(((([61,73,70,40]++p)++[62,50,44])++q)++[44,48,41])|4=>([61,123,49,44,50,59,51,44,52,125,43]++p)|5=>(([61]++ar)++[42,50])|6=>(((([61,76,69,84,40,120,44]++p)++[44,120,42,120,45])++q)++[41])|7=>(([61,76,69,84,40,102,44,76,65,77,66,68,65,40,110,44,73,70,40,110,60,49,44,49,44,110,42,102,40,110,45,49,41,41,41,44,102,40]++p)++[41,41])|8=>(([61]++p)++[38,34,97,34])|9=>([61,49,47]++p)|10=>([61,35,82,69,70,33,43]++p)|11=>(([61,45]++p)++[37])|12=>(((([61,67,79,85,78,84,40]++ar)++[44])++q)++[41])
 |13=>match nb,tb with
  |true,_=>[61,114,97,116,101,42]++p|false,true=>[61,83,85,77,40,84,97,98,91,120,93,41,43]++p|false,false=>[61]++p
 |14=>match nb,tb with
  |true,_=>[61,79,119,110,43]++p|false,true=>[61,83,85,77,40,84,97,98,91,120,93,41,43]++p|false,false=>[61]++p
 |_=>match tb with
  |true=>[61,83,85,77,40,84,97,98,91,120,93,41,43]++p|false=>[61]++p
set_option maxHeartbeats 4000000 in
theorem fmW (hg:hGr W0 G){p q ar:Bz}{c:RC}{n:Int}{k:Nat}(hA:∀H,cP W0 35 [aG [J U c.a0,J U c.a1,J U c.a2],J U n,I false] H (S p) H)(hB:∀H,cP W0 35 [aG [J U c.b0,J U c.b1,J U c.b2],J U n,I false] H (S q) H)(hC:∀H,cP W0 36 [aG [J U c.a0,J U c.a1,J U c.a2],aG [J U c.b0,J U c.b1,J U c.b2],J U n] H (S ar) H)(hk:k<16)(hP:∀H,cP W0 13 [J U c.kd,J U 16] H (J U (k:Nat)) H)(hp:N p≤100)(hq:N q≤100)(har:N ar≤100)(nb tb:Bool):cP W0 17 [rcV c,J U n,I nb,I tb] [] (S<|fmS nb tb p q ar k) []:=by
 refine goW 17 133 0 ?_
 match k,hk with
 |0,_=>exact We|1,_=>exact We|2,_=>exact We|3,_=>exact We|4,_=>exact We|5,_=>exact We|6,_=>exact We|7,_=>exact We|8,_=>exact We|9,_=>exact We|10,_=>exact We|11,_=>exact We|12,_=>exact We|13,_=>cases nb<;>cases tb<;>exact We
 |14,_=>cases nb<;>cases tb<;>exact We
 |15,_=>cases nb<;>cases tb<;>exact We
 |_+16,h=>omega
end Go.Abs
namespace Go.Abs
open Go.RowKit Go.Proofs
variable {W0 : World} {F : Nat → Prop} {bs : List Nat} {H : Hz} {w : World}
structure Lw (W0:World):Prop where
 maxlen:∃m,W0.cell? ⟨2,0,none⟩=some (.int .i64 m)
 tabs:Lib.Utf8Tabs 0 1 W0
 synt:∃ev,W0.cell? ⟨7,0,none⟩=some ev∧(ev= .nilIface∨∃te pe,ev= .iface te pe)
 range:∃ev,W0.cell? ⟨8,0,none⟩=some ev∧(ev= .nilIface∨∃te pe,ev= .iface te pe)
theorem Kz {v:Value}{s:Bz}(h:Rep F bs H w (.str s) v):v= .string ⟨s.toArray⟩:=by grind[Rep]
theorem Qq (s:Bz):Rep F bs H w (.str s) (.string ⟨s.toArray⟩):=Zx
theorem JH (k:IntKind)(n:Int):Rep F bs H w (.int k n) (.int k n):=Zx
theorem AY (b:Bool):Rep F bs H w (.bool b) (.bool b):=Zx
theorem JQ {x:AVal}{l:List Value}(h:Ab F bs H w [x] l):∃a,l=[a]∧Rep F bs H w x a:=by grind[Ab]
theorem Pi {x y:AVal}{l:List Value}(h:Ab F bs H w [x,y] l):∃a b,l=[a,b]∧Rep F bs H w x a∧Rep F bs H w y b:=by grind[Ab]
theorem Qa (s:Bz):(aK s.toArray).size=N s:=IL
theorem bdata (s:Bz):(aK s.toArray).data.toList=s:=B4
theorem lMap (hw:Lw W0){g:Nat}{caps caps':List AVal}{f:Int→Int}{s:Bz}(hg:MN gH g=true)(he:Y7 H caps=some caps')(hf:∀(W:World) (x:Nat),x≤1114111→A5 gH W g (.int .i32 x::caps') [] (.int .i32<|f x) [])
 (hr:∀x:Nat,x≤1114111→-2147483648≤f x∧f x≤2147483647) (hs:N s<35184372088832):cP W0 107 [.fn g [] caps,.str s] H (.str<|Lib.mapD f s) H:=by
 refine gM Ar λF bs w cargs hh hra=>?_;obtain⟨a,b,rfl,h1,h2⟩:=Pi hra;obtain rfl:=Kz h2;simp only[Rep,Ab]at h1;obtain⟨fs,cs,rfl,rfl,hl⟩:=h1;have hm:=EF hh hl he hf;refine(Tryz.strings_Map_grows g cs.toArray (EE hg) f ⟨s.toArray⟩ w FW hm hr<|MD hh hw.tabs).mono ?_;simp_all[Qq]
theorem lIndex (hw:Lw W0){s t:Bz}(hs:N s<4294967281):cP W0 275 [.str s,.str t] H (.int .i64<|Lib.index s t) H:=by refine gM Ar λF bs w cargs hh hra=>?_;obtain⟨a,b,rfl,h1,h2⟩:=Pi hra;obtain rfl:=Kz h1;obtain rfl:=Kz h2;obtain⟨m,hm⟩:=hw.maxlen;refine(Tryz.strings_Index ⟨s.toArray⟩ ⟨t.toArray⟩ m w FW<|W4 hh hm).mono ?_;simp_all[JH,gO]
theorem U4 (hw:Lw W0){s t:Bz}(hs:N s<4294967281):cP W0 240 [.str s,.str t] H (.bool<|iH s t) H:=by refine gM Ar λF bs w cargs hh hra=>?_;obtain⟨a,b,rfl,h1,h2⟩:=Pi hra;obtain rfl:=Kz h1;obtain rfl:=Kz h2;obtain⟨m,hm⟩:=hw.maxlen;refine(Tryz.strings_Contains ⟨s.toArray⟩ ⟨t.toArray⟩ m w FW<|W4 hh hm).mono ?_;simp_all[AY,gO]
theorem lCut (hw:Lw W0){s t:Bz}(hs:N s<4294967281):cP W0 168 [.str s,.str t] H (.tup [.str (iB s t).1,.str (iB s t).2.1,.bool (iB s t).2.2]) H:=by refine gM Ar λF bs w cargs hh hra=>?_;obtain⟨a,b,rfl,h1,h2⟩:=Pi hra;obtain rfl:=Kz h1;obtain rfl:=Kz h2;obtain⟨m,hm⟩:=hw.maxlen;refine(Tryz.strings_Cut ⟨s.toArray⟩ ⟨t.toArray⟩ m w FW<|W4 hh hm).mono ?_;simp_all[V4,Rep,Ab]
theorem lCount1 {s:Bz}(c:UInt8):cP W0 312 [.str s,.str [c]] H (.int .i64<|Lib.countByte s c) H:=by refine gM Ar λF bs w cargs hh hra=>?_;obtain⟨a,b,rfl,h1,h2⟩:=Pi hra;obtain rfl:=Kz h1;obtain rfl:=Kz h2;refine(Tryz.strings_Count_one ⟨s.toArray⟩ c w).mono ?_;simp_all[JH,gO]
theorem lLast {s:Bz}(c:UInt8)(hs:N s<4611686018427387904):cP W0 237 [.str s,.int .u8 (c.toNat:Nat)] H (.int .i64<|To s c) H:=by refine gM Ar λF bs w cargs hh hra=>?_;obtain⟨a,b,rfl,h1,h2⟩:=Pi hra;obtain rfl:=Kz h1;simp only[Rep]at h2;subst h2;refine(Tryz.strings_LastIndexByte ⟨s.toArray⟩ c.toNat FW w).mono ?_;rintro e w' ⟨rfl,rfl⟩;refine⟨_,Z,?_,gO _ _⟩;grind[Lib.lastIndexByte,Qa,Lib.lastIdx_spec,Xa,UInt8.toNat_inj,JH]
theorem lItoa {n:Nat}(hn:n<100):cP W0 185 [.int .i64 n] H (.str<|gY n) H:=by refine gM Ar λF bs w cargs hh hra=>?_;obtain⟨a,rfl,h1⟩:=JQ hra;simp only[Rep]at h1;subst h1;refine(Tryz.strconv_Itoa_small n hn w).mono ?_;grind[Qq,gO]
theorem FA (w:World)(e:TypeId)(s:ByteArray):Below w.heap.size w (Lib.bytesWorld w e s):=by unfold Lib.bytesWorld;exact Lib.below_freeze (((gO w.heap.size w).drew).alloc (bC _) _) (p:=⟨w.heap.size,_,none⟩) (bC _) _
theorem lAtoi {s:Bz}{n:Int}(hs:N s≤9223372036854775806)(h:gW s= .ok n):cP W0 184 [.str s] H (.tup [.int .i64 n,.nilIf]) H:=by refine gM Ar λF bs w cargs hh hra=>?_;obtain⟨a,rfl,h1⟩:=JQ hra;obtain rfl:=Kz h1;refine(Tryz.strconv_Atoi_ok ⟨s.toArray⟩ FW n Y w).mono ?_;grind[Rep,Ab,gO,FA]
def errV :AVal:=.iface 319<|.eptr (.str [65,116,111,105]) 0
theorem errRep (hh:Ae W0 F bs H w){w':World}{Nx:Nat}{s:ByteArray}{ev:Value}(hN:w.heap.size≤Nx)(h:w'.heap[Nx]?=some (.cells #[.string ⟨#[65,116,111,105]⟩,.string s,ev] 336 (0,0))):
 Rep F bs H w' errV (.iface 319<|.pointer<|some ⟨Nx,0,none⟩):=by
 have hlt:Nx<w'.heap.size:=(dZ.1 h).1;simp only[errV,Rep];refine⟨_,Z,Nx,0,.string ⟨#[65,116,111,105]⟩,Z,Z,⟨λhm=>?_,λhF=>?_⟩,hlt,λj x hx=>?_⟩;·have:=(hh.low Nx hm).2;omega
 ·have:=(hh.forb Nx hF).2.1;omega
 grind[Value.cells,World.cell?]
theorem atoiNil {e:Lib.NumEnd Int}(h1:∀n,e= .ok n→False)(h2:e= .range→False):e=gW []:=by cases e<;>first|rfl|exact(h1 _ rfl).elim|exact(h2 rfl).elim
theorem QV (hw:Lw W0){s:Bz}(hs:N s≤281474976710656)(h:gW s=gW []):cP W0 184 [.str s] H (.tup [.int .i64 0,errV]) H:=by refine gM Ar λF bs w cargs hh hra=>?_;obtain⟨a,rfl,h1⟩:=JQ hra;obtain rfl:=Kz h1;obtain⟨ev,hev,hev2⟩:=hw.synt;refine(Tryz.strconv_Atoi_syntax ⟨s.toArray⟩ FW h ev w (W4 hh hev) hev2).mono ?_;grind[errRep,Rep,Ab]
theorem QD (hw:Lw W0){s:Bz}(hs:N s≤9223372036854775807):cP W0 105 [.str s] H (.bool<|Lib.validD s) H:=by refine gM Ar λF bs w cargs hh hra=>?_;obtain⟨a,rfl,h1⟩:=JQ hra;obtain rfl:=Kz h1;refine(Tryz.utf8_ValidString ⟨s.toArray⟩ w FW<|MD hh hw.tabs).mono ?_;simp_all[AY]
theorem lJoin {y:AVal}{ys:List AVal}{m:Nat}{l:List Bz}{sep:Bz}(hy:Cm 1 H y=some (ys,m))(hl:K6 ys=some l)(h1:N l≤140737488355328)(h2:N (iF l sep)≤140737488355328):cP W0 362 [y,.str sep] H (.str<|iF l sep) H:=by
 refine gM Ar λF bs w cargs hh hra=>?_;obtain⟨a,b,rfl,k1,k2⟩:=Pi hra;obtain rfl:=Kz k2;obtain⟨ad,c,us,rfl,q1,q2,q3,q4⟩:=Ub hh k1 hy;have hus:=Zi hl q1;have hlen:N l=m:=by grind
 cases ad with
 |none=>have hm:=q3 Z;subst hm;have:l=[]:=bF hlen;subst this;refine(iA none c ⟨sep.toArray⟩ w).mono ?_;rintro e w' ⟨rfl,rfl⟩;exact⟨_,Z,Qq _,gO _ _⟩
 |some ad=>
  by_cases hm:m=0;·subst hm;have:l=[]:=bF hlen;subst this;refine(iA (some ad) c ⟨sep.toArray⟩ w).mono ?_;rintro e w' ⟨rfl,rfl⟩;exact⟨_,Z,Qq _,gO _ _⟩
  ·obtain⟨hsp,hcap⟩:=IT hh k1 hy hm;obtain⟨ab,ao,asp⟩:=ad;simp only at hsp;subst hsp;subst hlen;have hcell:∀(j:Nat) (x:ByteArray),(l.map λs=>aK s.toArray)[j]?=some x→w.cell? ⟨ab,ao+j,none⟩=some (.string x):=λj x hx=>by
    rw[List.getElem?_map]at hx;cases hj:l[j]? with
    |none=>rw[hj]at hx;cases hx
    |some s=>rw[hj]at hx;simp only[Option.map_some,iS]at hx;subst hx;have:=q4 ⟨ab,ao,none⟩ Z j (.string ⟨s.toArray⟩) (by grind);rwa[Addr.add_at]at this
   have hb:ab<w.heap.size:=by cases l with|nil=>exact absurd rfl hm|cons s r=>exact World.block_lt_of_cell? w ⟨ab,ao+0,none⟩<|hcell 0 _ rfl
   have hmap:(l.map λs=>aK s.toArray).map (λx=>x.data.toList)=l:=by simp_all[List.map_congr_left]
   have:=Tryz.strings_Join ab ao c (l.map λs=>aK s.toArray) ⟨sep.toArray⟩ w hcell hb (by grind) (by grind) (by grind);rw[hmap,bdata,List.length_map]at this;refine this.mono ?_;grind[Qq]
theorem Fo {s t:Bz}:cP W0 285 [.str s,.str t] H (.bool<|gJ s t) H:=by refine gM Ar λF bs w cargs hh hra=>?_;obtain⟨a,b,rfl,h1,h2⟩:=Pi hra;obtain rfl:=Kz h1;obtain rfl:=Kz h2;refine(Tryz.strings_HasPrefix ⟨s.toArray⟩ ⟨t.toArray⟩ w).mono ?_;simp_all[AY,gO]
theorem Ii {s t:Bz}:cP W0 109 [.str s,.str t] H (.tup [.str<|iC s t,.bool<|gJ s t]) H:=by refine gM Ar λF bs w cargs hh hra=>?_;obtain⟨a,b,rfl,h1,h2⟩:=Pi hra;obtain rfl:=Kz h1;obtain rfl:=Kz h2;refine(Tryz.strings_CutPrefix ⟨s.toArray⟩ ⟨t.toArray⟩ w).mono ?_;simp_all[gO,Rep,Ab]
end Go.Abs
namespace Go.Abs
open Go.Proofs Go.RowKit
set_option maxRecDepth 100000
variable {W0 : World} {G : List (Nat × AVal)}
def Gt (r:Int):Bool:=decide (48≤r)&&decide (r≤57)
def letterL (r:Int):Bool:=(decide (65≤r)&&decide (r≤90))||(decide (97≤r)&&decide (r≤122))
def Ip (r:Int):Bool:=Gt r||letterL r||decide (r=95)||decide (r=46)||decide (r=36)
def Wn (r:Int):Bool:=Gt r||letterL r||decide (r=36)
def rdr (s:Bz)(at':Nat):HObj:=C 275 [S s,J U at'] false
def Hh (k:Int)(s:Bz)(at':Nat):AVal:=aG [J U k,S s,J U at']
theorem TC (hg:hGr W0 G)(r:Int)(H:Hz):cP W0 259 [J .i32 r] H (I<|Gt r) H:=by
 refine goA 259 9 ?_;refine sA<|lV Z<|ln<|sA<|lV Z ?_;refine lB Z Z O (λh1=>?_)<|λh1=>?_
 ·refine lV Z<|lGY Z<|Aa Z Z O<|lGY Z<|?_;refine lB Z Z O (λh2=>?_)<|λh2=>?_;·refine lV Z<|lV Z<|ln ?_;exact gG (A6 O Z (by grind[Cb,Gt]) Z)
  ·refine lV Z<|lV Z<|ln ?_;exact gG<|A6 O Z (by grind[Cb,Gt]) Z
 ·refine lV Z<|lGN Z Z<|lGN Z Z<|lV Z<|lV Z<|ln ?_;exact gG<|A6 O Z (by grind[Cb,Gt]) Z
theorem c310 (hg:hGr W0 G)(r:Int)(H:Hz):cP W0 296 [J .i32 r] H (I<|letterL r) H:=by
 refine goA 296 17 ?_;refine sA<|lV Z<|ln<|sA<|lV Z ?_;refine lB Z Z O (λh1=>?_)<|λh1=>?_
 ·refine lV Z<|lGY Z<|Aa Z Z O<|lGY Z<|?_;refine lB Z Z O (λh2=>?_)<|λh2=>?_;·refine lV Z<|lV Z<|lGN Z Z<|lGN Z Z<|lGN Z Z<|lGT Z Z<|lGT Z Z<|lGN Z Z<|lV Z<|lV Z<|ln ?_;exact gG (A6 O Z (by grind[Cb,letterL]) Z)
  ·refine lV Z<|lV Z<|lGY Z<|Aa Z Z O<|lGY Z<|?_;refine lB Z Z O (λh3=>?_) (λh3=>?_)
   ·refine lGY Z<|Aa Z Z O<|lGY Z<|Aa Z Z O<|lGY Z<|?_;refine lB Z Z O (λh4=>?_)<|λh4=>?_;·refine lGY Z<|Aa Z Z O<|Aa Z Z O<|Aa Z Z O<|D7<|?_;exact gG (A6 O Z (by grind[Cb,letterL]) Z)
    ·refine lGY Z<|Aa Z Z O<|Aa Z Z O<|Aa Z Z O<|D7<|?_;exact gG<|A6 O Z (by grind[Cb,letterL]) Z
   ·refine lGY Z<|Aa Z Z O<|lGN Z Z<|lGN Z Z<|lGY Z<|Aa Z Z O<|Aa Z Z O<|Aa Z Z O<|D7<|?_;exact gG<|A6 O Z (by grind[Cb,letterL]) Z
 ·refine lV Z<|lGN Z Z<|lGN Z Z<|lV Z<|lV Z<|lGY Z<|Aa Z Z O<|lGY Z<|?_;refine lB Z Z O (λh5=>?_)<|λh5=>?_;·grind
  ·refine lGY Z<|Aa Z Z O<|lGN Z Z<|lGN Z Z<|lGY Z<|Aa Z Z O<|Aa Z Z O<|Aa Z Z O<|D7<|?_;exact gG<|A6 O Z (by grind[Cb,letterL]) Z
theorem c211 (hg:hGr W0 G)(r:Int)(H:Hz):cP W0 264 [J .i32 r] H (I<|Ip r) H:=by
 refine goA 264 21 ?_;refine sA<|lV Z<|ln<|sA<|lV Z ?_;refine lCB Z Z (TC hg _ _) (λh1=>?_)<|λh1=>?_;·refine lV Z<|lGN Z Z<|lGN Z Z<|lV Z<|lV Z<|lGN Z Z<|lGN Z Z<|lV Z<|lV Z<|lGN Z Z<|lGN Z Z<|lV Z<|lV Z<|lGN Z Z<|lGN Z Z<|lV Z<|lV Z<|ln ?_;exact gG<|A6 O Z (by grind[Cb,Ip]) Z
 ·refine lV Z<|lGY Z<|Aa Z Z O<|lGY Z<|?_;refine lCB Z Z (c310 hg _ _) (λh2=>?_)<|λh2=>?_;·refine lV Z<|lV Z<|lGN Z Z<|lGN Z Z<|lV Z<|lV Z<|lGN Z Z<|lGN Z Z<|lV Z<|lV Z<|lGN Z Z<|lGN Z Z<|lV Z<|lV Z<|ln ?_;exact gG (A6 O Z (by grind[Cb,Ip]) Z)
  ·refine lV Z<|lV Z<|lGY Z<|Aa Z Z O<|lGY Z<|?_;refine lB Z Z O (λh3=>?_)<|λh3=>?_;·refine lV Z<|lV Z<|lGN Z Z<|lGN Z Z<|lV Z<|lV Z<|lGN Z Z<|lGN Z Z<|lV Z<|lV Z<|ln ?_;exact gG (A6 O Z (by grind[Cb,Ip]) Z)
   ·refine lV Z<|lV Z<|lGY Z<|Aa Z Z O<|lGY Z<|?_;refine lB Z Z O (λh4=>?_)<|λh4=>?_;·refine lV Z<|lV Z<|lGN Z Z<|lGN Z Z<|lV Z<|lV Z<|ln ?_;exact gG (A6 O Z (by grind[Cb,Ip]) Z)
    ·refine lV Z<|lV Z<|lGY Z<|Aa Z Z O<|lGY Z<|?_;refine lB Z Z O (λh5=>?_)<|λh5=>?_;·refine lV Z<|lV Z<|ln ?_;exact gG (A6 O Z (by grind[Cb,Ip]) Z)
     ·refine lV Z<|lV Z<|ln ?_;exact gG<|A6 O Z (by grind[Cb,Ip]) Z
theorem c363 (hg:hGr W0 G)(r:Int)(H:Hz):cP W0 324 [J .i32 r] H (I<|Wn r) H:=by
 refine goA 324 13 ?_;refine sA<|lV Z<|ln<|sA<|lV Z ?_;refine lCB Z Z (TC hg _ _) (λh1=>?_)<|λh1=>?_;·refine lV Z<|lGN Z Z<|lGN Z Z<|lV Z<|lV Z<|lGN Z Z<|lGN Z Z<|lV Z<|lV Z<|ln ?_;exact gG<|A6 O Z (by grind[Cb,Wn]) Z
 ·refine lV Z<|lGY Z<|Aa Z Z O<|lGY Z<|?_;refine lCB Z Z (c310 hg _ _) (λh2=>?_)<|λh2=>?_;·refine lV Z<|lV Z<|lGN Z Z<|lGN Z Z<|lV Z<|lV Z<|ln ?_;exact gG (A6 O Z (by grind[Cb,Wn]) Z)
  ·refine lV Z<|lV Z<|lGY Z<|Aa Z Z O<|lGY Z<|?_;refine lB Z Z O (λh3=>?_)<|λh3=>?_;·refine lV Z<|lV Z<|ln ?_;exact gG (A6 O Z (by grind[Cb,Wn]) Z)
   ·refine lV Z<|lV Z<|ln ?_;exact gG<|A6 O Z (by grind[Cb,Wn]) Z
theorem c301p (hg:hGr W0 G)(s:Bz)(at':Nat)(h:at'≤N s)(h2:N s≤9223372036854775807):cP W0 286 [aP 0 0] [rdr s at'] (S<|s.drop at') [rdr s at']:=by refine goA 286 12 ?_;refine sA<|lV Z<|ln<|sa ?_;refine gQ hg ?_;refine qV Z<|qV Z<|qV Z<|qV Z<|qV Z<|qV Z<|qV Z<|qV Z<|Ao Z Z (by simp_all[Bl,Ah])<|qV Z<|Dx<|?_;exact gG<|A6 O Z Z Z
theorem c301 (hg:hGr W0 G){H:Hz}{id:Nat}{s:Bz}{at':Nat}(hi:H[id]?=some (rdr s at'))(h:at'≤N s)(h2:N s≤9223372036854775807):cP W0 286 [aP id 0] H (S<|s.drop at') H:=A5.at1 (c301p hg s at' h h2) hi Z Z Z Z Z Z<|Tj hi
theorem c302p (hg:hGr W0 G)(s:Bz)(at' n:Nat)(k:Int)(t:Bz)(h:at'+n≤9223372036854775807)(hn:0<n):cP W0 287 [aP 0 0,J U k,S t,J U n] [rdr s at'] (aU [Hh k t at',I true]) [rdr s<|at'+n]:=by
 refine goA 287 29 ?_;refine sA<|lV (v:=aP 1 0) Z<|lV Z<|ln<|sA<|lV Z<|lV Z<|lV Z<|lV Z<|lV Z<|lV Z<|lV Z<|lV (v:=aP 2 0) Z<|Fb Z<|ln<|sA<|lV Z<|lV Z<|lV Z<|lV Z<|lV Z<|lAddN Z Z Z Y<|Aa Z Z O<|Aa Z Z O<|Fb Z<|D7<|gP<|gU hg<|Aa Z Z O<|Aa Z Z O<|?_;refine lB Z Z O (λh1=>?_)<|λh1=>?_;·refine Fb Z<|Aa Z Z O<|D7<|?_;exact gG<|A4 O Z Z 100 Z Z
 grind
theorem AS (hg:hGr W0 G){H H':Hz}{id:Nat}{s:Bz}{at' n:Nat}(k:Int)(t:Bz)(hi:H[id]?=some (rdr s at'))(h:at'+n≤9223372036854775807)(hn:0<n)(hH:H.set id (rdr s<|at'+n)=H'):
 cP W0 287 [aP id 0,J U k,S t,J U n] H (aU [Hh k t at',I true]) H':=A5.at1 (c302p hg s at' n k t h hn) hi rfl rfl rfl rfl rfl rfl hH
def U5 (x:Int):Int:=if 65≤x∧x≤90 then x+32 else x
def upF (x:Int):Int:=if 97≤x∧x≤122 then x-32 else x
theorem w32 {x:Int}(h1:-2147483648≤x)(h2:x≤2147483647):gE.wrap x=x:=by rw[IntKind.wrap_i32];omega
theorem c92 (hg:hGr W0 G)(x:Nat)(hx:x≤1114111)(H:Hz):cP W0 108 [J .i32 x] H (J .i32<|U5 x) H:=by
 refine goA 108 13 ?_;refine sA<|lV Z<|ln<|sa<|sA<|lV Z ?_;refine lB Z Z O (λh1=>?_)<|λh1=>?_
 ·refine lV Z<|lGY Z<|Aa Z Z O<|lGY Z<|?_;refine lB Z Z O (λh2=>?_)<|λh2=>?_;·refine lV Z<|ln<|aT Z<|sA<|lV Z<|lS Z<|lV Z<|lV Z<|ln ?_;refine gG ?_;refine A6 O Z ?_ Z;show J .i32 (gE.wrap<|gE.wrap (_+_)-_)=_;rw[w32 (x:=_+_) Y Y,w32 Y Y];simp only[U5];grind
  ·refine lV Z<|ln<|aF Z<|kA<|sA<|lV Z<|lV Z<|ln ?_;refine gG ?_;refine A6 O Z ?_ Z;simp_all[Cb,U5,if_neg]
 ·refine lV Z<|lGN Z Z<|lGN Z Z<|lV Z<|ln<|aF Z<|kA<|sA<|lV Z<|lV Z<|ln ?_;refine gG ?_;refine A6 O Z ?_ Z;simp only[Cb,U5];grind
theorem c354 (hg:hGr W0 G)(x:Nat)(hx:x≤1114111)(H:Hz):cP W0 241 [J .i32 x] H (J .i32<|upF x) H:=by
 refine goA 241 13 ?_;refine sA<|lV Z<|ln<|sa<|sA<|lV Z ?_;refine lB Z Z O (λh1=>?_)<|λh1=>?_
 ·refine lV Z<|lGY Z<|Aa Z Z O<|lGY Z<|?_;refine lB Z Z O (λh2=>?_)<|λh2=>?_;·refine lV Z<|ln<|aT Z<|sA<|lV Z<|lV Z<|lS Z<|lV Z<|ln ?_;refine gG ?_;refine A6 O Z ?_ Z;show J .i32 (gE.wrap<|gE.wrap (_-_)+_)=_;rw[w32 (x:=_-_) Y Y,w32 Y Y];simp only[upF];grind
  ·refine lV Z<|ln<|aF Z<|kA<|sA<|lV Z<|lV Z<|ln ?_;refine gG ?_;refine A6 O Z ?_ Z;simp_all[Cb,upF,if_neg]
 ·refine lV Z<|lGN Z Z<|lGN Z Z<|lV Z<|ln<|aF Z<|kA<|sA<|lV Z<|lV Z<|ln ?_;refine gG ?_;refine A6 O Z ?_ Z;simp only[Cb,upF];grind
theorem c362 (hg:hGr W0 G)(x:Nat)(hx:x≤1114111)(H:Hz):cP W0 323 [J .i32 x] H (J .i32<|upF x) H:=by
 refine goA 323 13 ?_;refine sA<|lV Z<|ln<|sa<|sA<|lV Z ?_;refine lB Z Z O (λh1=>?_)<|λh1=>?_
 ·refine lV Z<|lGY Z<|Aa Z Z O<|lGY Z<|?_;refine lB Z Z O (λh2=>?_)<|λh2=>?_;·refine lV Z<|ln<|aT Z<|sA<|lV Z<|lV Z<|lS Z<|lV Z<|ln ?_;refine gG ?_;refine A6 O Z ?_ Z;show J .i32 (gE.wrap<|gE.wrap (_-_)+_)=_;rw[w32 (x:=_-_) Y Y,w32 Y Y];simp only[upF];grind
  ·refine lV Z<|ln<|aF Z<|kA<|sA<|lV Z<|lV Z<|ln ?_;refine gG ?_;refine A6 O Z ?_ Z;simp_all[Cb,upF,if_neg]
 ·refine lV Z<|lGN Z Z<|lGN Z Z<|lV Z<|ln<|aF Z<|kA<|sA<|lV Z<|lV Z<|ln ?_;refine gG ?_;refine A6 O Z ?_ Z;simp only[Cb,upF];grind
theorem ON (hg:hGr W0 G)(x:Nat)(hx:x≤1114111)(H:Hz):cP W0 369 [J .i32 x,aE (J .i32 97) 0,aE (J .i32 65) 0] H (J .i32<|upF x) H:=by
 refine goA 369 20 ?_;refine sA<|lV Z<|ln<|sa<|sA<|lV Z<|lV Z ?_;refine lB Z Z O (λh1=>?_)<|λh1=>?_
 ·refine lV Z<|lGY Z<|Aa Z Z O<|lGY Z<|Aa Z Z O<|lGY Z<|Aa (v:=J .i32 123) Z Z (by simp_all[Ah])<|lGY Z<|?_;refine lB Z Z O (λh2=>?_)<|λh2=>?_;·refine lV Z<|ln<|aT Z<|sA<|lV Z<|lV Z<|lV Z<|lV Z<|lS Z<|lV Z<|ln ?_;refine gG ?_;refine A6 O Z ?_ Z;show J .i32 (gE.wrap<|gE.wrap (_-_)+_)=_;rw[w32 (x:=_-_) Y Y,w32 Y Y];simp only[upF];grind
  ·refine lV Z<|ln<|aF Z<|kA<|sA<|lV Z<|lV Z<|ln ?_;refine gG ?_;refine A6 O Z ?_ Z;simp only[Cb,upF];grind
 ·refine lV Z<|lGN Z Z<|lGN Z Z<|lGN Z Z<|lGN Z Z<|lV Z<|ln<|aF Z<|kA<|sA<|lV Z<|lV Z<|ln ?_;refine gG ?_;refine A6 O Z ?_ Z;simp only[Cb,upF];grind
theorem QK (hg:hGr W0 G)(x:Nat)(hx:x≤1114111)(H:Hz):cP W0 369 [J .i32 x,aE (J .i32 65) 0,aE (J .i32 97) 0] H (J .i32<|U5 x) H:=by
 refine goA 369 20 ?_;refine sA<|lV Z<|ln<|sa<|sA<|lV Z<|lV Z ?_;refine lB Z Z O (λh1=>?_)<|λh1=>?_
 ·refine lV Z<|lGY Z<|Aa Z Z O<|lGY Z<|Aa Z Z O<|lGY Z<|Aa (v:=J .i32 91) Z Z (by simp_all[Ah])<|lGY Z<|?_;refine lB Z Z O (λh2=>?_)<|λh2=>?_;·refine lV Z<|ln<|aT Z<|sA<|lV Z<|lV Z<|lV Z<|lV Z<|lS Z<|lV Z<|ln ?_;refine gG ?_;refine A6 O Z ?_ Z;show J .i32 (gE.wrap<|gE.wrap (_-_)+_)=_;rw[w32 (x:=_-_) Y Y,w32 Y Y];simp only[U5];grind
  ·refine lV Z<|ln<|aF Z<|kA<|sA<|lV Z<|lV Z<|ln ?_;refine gG ?_;refine A6 O Z ?_ Z;simp only[Cb,U5];grind
 ·refine lV Z<|lGN Z Z<|lGN Z Z<|lGN Z Z<|lGN Z Z<|lV Z<|ln<|aF Z<|kA<|sA<|lV Z<|lV Z<|ln ?_;refine gG ?_;refine A6 O Z ?_ Z;simp only[Cb,U5];grind
theorem FX (W:World):Gr gH W []:=⟨λ_ _ h=>Hq,Ar⟩
def TF (g:Nat)(caps:List AVal):Option (Int→Int):=match caps with| []=>cond (aA g 108) (some U5) (cond (aA g 241||aA g 323) (some upF) none)| [aE (J .i32 a) 0,aE (J .i32 b) 0]=>cond (aA g 369) (cond (decide (a=97)&&decide (b=65)) (some upF)<|cond (decide (a=65)&&decide (b=97)) (some U5) none) none|_=>none
theorem SR (x:Nat)(h:x≤1114111):-2147483648≤U5 x∧U5 x≤2147483647:=by grind[U5]
theorem RG (x:Nat)(h:x≤1114111):-2147483648≤upF x∧upF x≤2147483647:=by grind[upF]
theorem QL {g:Nat}{caps:List AVal}{f:Int→Int}(h:TF g caps=some f):MN gH g=true∧(∀(W:World) (x:Nat),x≤1114111→A5 gH W g (J .i32 x::caps) [] (J .i32<|f x) [])∧∀x:Nat,x≤1114111→-2147483648≤f x∧f x≤2147483647:=by
 unfold TF at h;split at h
 ·cases h1:(aA g 108)with
  |true=>rw[h1,cond_true]at h;injection h with h;subst h;have:=nBq h1;subst this;exact⟨Ar,λW x hx=>c92 (FX W) x hx [],SR⟩
  |false=>
   rw[h1,cond_false]at h;cases h2:(aA g 241||aA g 323)with
   |true=>
    rw[h2,cond_true]at h;injection h with h;subst h;rw[eI]at h2;rcases h2 with h1|h1<;>(have:=nBq h1;subst this);·exact⟨Ar,λW x hx=>c354 (FX W) x hx [],RG⟩
    ·exact⟨Ar,λW x hx=>c362 (FX W) x hx [],RG⟩
   |false=>rw[h2]at h;cases h
 ·rename_i a b;cases h1:aA g 369 with
  |false=>rw[h1]at h;cases h
  |true=>
   rw[h1,cond_true]at h;have:=nBq h1;subst this;cases h2:(decide (a=97)&&decide (b=65))with
   |true=>rw[h2,cond_true]at h;injection h with h;subst h;simp only[bAt,dTe]at h2;obtain⟨rfl,rfl⟩:=h2;exact⟨Ar,λW x hx=>ON (FX W) x hx [],RG⟩
   |false=>
    rw[h2,cond_false]at h;cases h3:(decide (a=65)&&decide (b=97))with
    |true=>rw[h3,cond_true]at h;injection h with h;subst h;simp only[bAt,dTe]at h3;obtain⟨rfl,rfl⟩:=h3;exact⟨Ar,λW x hx=>QK (FX W) x hx [],SR⟩
    |false=>rw[h3]at h;cases h
 ·cases h
def LH (f:Int→Int)(s:Bz):Bool:=s.all λb=>bB b.toNat 128&&(decide (0≤f (b.toNat:Nat))&&decide (f (b.toNat:Nat)<128))
def tMap (H:Hz):List AVal→Option AVal
 | [.fn g [] caps,S s]=>match Y7 H caps with
  |some caps'=>match TF g caps' with
   |some f=>cond (LH f s&&bK (N s) 1000000) (some<|S<|BE f s) none|none=>none
  |none=>none
 |_=>none
theorem LA (hw:Lw W0){H:Hz}{args:List AVal}{v:AVal}(h:tMap H args=some v):cP W0 107 args H v H:=by
 unfold tMap at h;split at h
 ·rename_i g caps s;split at h
  ·rename_i caps' he;split at h
   ·rename_i f hf;cases hc:(LH f s&&bK (N s) 1000000)with
    |false=>rw[hc]at h;cases h
    |true=>
     rw[hc,cond_true]at h;injection h with h;subst h;simp only[bAt]at hc;have hl:=aO hc.2;have hall:∀b∈s,b.toNat<128∧0≤f (b.toNat:Nat)∧f (b.toNat:Nat)<128:=by intro b hb;have:=eB.1 hc.1 b hb;simp_all
     obtain⟨k1,k2,k3⟩:=QL hf;rw[←QB s (eB.2 λb hb=>by simp_all) (λb hb=>(hall b hb).2)];exact lMap hw k1 he k2 k3 Y
   ·cases h
  ·cases h
 ·cases h
def HH :List AVal→Option AVal
 | [S s,S t]=>cond (bK (N s) 1000000) (some<|J U<|Lib.index s t) none|_=>none
def Uo :List AVal→Option AVal
 | [S s,S t]=>cond (bK (N s) 1000000) (some<|I<|iH s t) none|_=>none
def tCut :List AVal→Option AVal
 | [S s,S t]=>cond (bK (N s) 1000000) (some<|aU [S (iB s t).1,S (iB s t).2.1,I (iB s t).2.2]) none|_=>none
def GU :List AVal→Option AVal
 | [S s,S [c]]=>some (J U<|Lib.countByte s c)|_=>none
def QH :List AVal→Option AVal
 | [S s,J .u8 n]=>cond (decide (((n.toNat.toUInt8).toNat:Int)=n)&&bK (N s) 1000000) (some<|J U<|To s n.toNat.toUInt8) none|_=>none
def dig2 (n:Nat):Bz:=cond (bB n 10) [iI<|48+n] [iI<|48+n/10,iI<|48+n%10]
def PF :List AVal→Option AVal
 | [J U n]=>cond (decide (0≤n)&&decide (n<100)) (some<|S<|dig2 n.toNat) none|_=>none
def UA :List AVal→Option AVal
 | [S s]=>cond (bK (N s) 1000000) (match gW s with
  |.ok n=>some (aU [J U n,.nilIf])|.range=>none|_=>some (aU [J U 0,errV])) none
 |_=>none
def HU :List AVal→Option AVal
 | [S s]=>cond (asc s&&bK (N s) 1000000) (some<|I true) none|_=>none
def SX (H:Hz):List AVal→Option AVal
 | [y,S sep]=>match Cm 1 H y with
  |some (ys,_)=>match K6 ys with
   |some l=>cond (bK (N l) 1000000&&bK (N<|iF l sep) 1000000) (some<|S<|iF l sep) none|none=>none
  |none=>none
 |_=>none
theorem dig2_ok {n:Nat}(h:n<100):dig2 n=gY n:=by
 unfold dig2;rw[gY];by_cases h1:n<10;·rw[dif_pos h1,show bB n 10=true by simp_all];rfl
 ·rw[dif_neg h1,show bB n 10=false from(by grind[gZ]),gY,dif_pos Y];rfl
theorem HA :∀s:Bz,asc s=true→Lib.validD s=true:=by
 have go:∀(n:Nat) (s:Bz),asc s=true→gD n s=true:=by intro n;induction n with|zero=>intro s _;rfl|succ n ih=>intro s hs;cases s with|nil=>rfl|cons b r=>simp only[asc,List.all_cons,bAt,gZ]at hs;unfold gD;rw[if_neg B4,Lib.decodeL_ascii b r hs.1,if_neg Jo];exact ih r hs.2
 intro s hs;exact go _ s hs
def libTab :CallF:=λf args H=>
 let k:=λ(o:Option AVal)=>match o with|some v=>some (v,H)|none=>none
 cond (bK f 90) none (
 cond (aA f 107) (k (tMap H args)) (
 cond (aA f 275) (k (HH args)) (
 cond (aA f 240) (k (Uo args)) (
 cond (aA f 168) (k (tCut args)) (
 cond (aA f 312) (k (GU args)) (
 cond (aA f 237) (k (QH args)) (
 cond (aA f 185) (k (PF args)) (
 cond (aA f 184) (k (UA args)) (
 cond (aA f 105) (k (HU args)) (
 cond (aA f 362) (k (SX H args)) none))))))))))
theorem NQ (hw:Lw W0){H:Hz}{args:List AVal}{v:AVal}(h:HH args=some v):cP W0 275 args H v H:=by
 unfold HH at h;split at h
 ·rename_i s t;cases hc:bK (N s) 1000000 with
  |false=>rw[hc]at h;cases h
  |true=>rw[hc,cond_true]at h;injection h with h;subst h;have:=aO hc;exact lIndex hw Y
 ·cases h
theorem CZ (hw:Lw W0){H:Hz}{args:List AVal}{v:AVal}(h:Uo args=some v):cP W0 240 args H v H:=by
 unfold Uo at h;split at h
 ·rename_i s t;cases hc:bK (N s) 1000000 with
  |false=>rw[hc]at h;cases h
  |true=>rw[hc,cond_true]at h;injection h with h;subst h;have:=aO hc;exact U4 hw Y
 ·cases h
theorem tCut_ok (hw:Lw W0){H:Hz}{args:List AVal}{v:AVal}(h:tCut args=some v):cP W0 168 args H v H:=by
 unfold tCut at h;split at h
 ·rename_i s t;cases hc:bK (N s) 1000000 with
  |false=>rw[hc]at h;cases h
  |true=>rw[hc,cond_true]at h;injection h with h;subst h;have:=aO hc;exact lCut hw Y
 ·cases h
theorem OE (hw:Lw W0){H:Hz}{args:List AVal}{v:AVal}(h:GU args=some v):cP W0 312 args H v H:=by
 unfold GU at h;split at h;·injection h with h;subst h;exact lCount1 _
 ·cases h
theorem SN (hw:Lw W0){H:Hz}{args:List AVal}{v:AVal}(h:QH args=some v):cP W0 237 args H v H:=by
 unfold QH at h;split at h
 ·rename_i s n;cases hc:(decide (((n.toNat.toUInt8).toNat:Int)=n)&&bK (N s) 1000000)with
  |false=>rw[hc]at h;cases h
  |true=>rw[hc,cond_true]at h;injection h with h;subst h;simp only[bAt,dTe]at hc;have:=aO hc.2;have h2:=lLast (W0:=W0) (H:=H) (s:=s) n.toNat.toUInt8 Y;rw[hc.1]at h2;exact h2
 ·cases h
theorem PW (hw:Lw W0){H:Hz}{args:List AVal}{v:AVal}(h:PF args=some v):cP W0 185 args H v H:=by
 unfold PF at h;split at h
 ·rename_i n;cases hc:(decide (0≤n)&&decide (n<100))with
  |false=>rw[hc]at h;cases h
  |true=>rw[hc,cond_true]at h;injection h with h;subst h;simp only[bAt,dTe]at hc;have h2:=lItoa (W0:=W0) (H:=H) (n:=n.toNat) Y;rw[←dig2_ok Y,Int.toNat_of_nonneg hc.1]at h2;exact h2
 ·cases h
theorem SH (hw:Lw W0){H:Hz}{args:List AVal}{v:AVal}(h:UA args=some v):cP W0 184 args H v H:=by
 unfold UA at h;split at h
 ·rename_i s;cases hc:bK (N s) 1000000 with
  |false=>rw[hc]at h;cases h
  |true=>
   rw[hc,cond_true]at h;have:=aO hc;split at h;·grind[lAtoi]
   ·cases h
   ·rename_i h1 h2;have h3:=atoiNil h1 h2;grind[QV]
 ·cases h
theorem OP (hw:Lw W0){H:Hz}{args:List AVal}{v:AVal}(h:HU args=some v):cP W0 105 args H v H:=by
 unfold HU at h;split at h
 ·rename_i s;cases hc:(asc s&&bK (N s) 1000000)with
  |false=>rw[hc]at h;cases h
  |true=>rw[hc,cond_true]at h;injection h with h;subst h;simp only[bAt]at hc;have:=aO hc.2;have h2:=QD hw (H:=H) (s:=s) Y;rw[HA s hc.1]at h2;exact h2
 ·cases h
theorem RD {H:Hz}{args:List AVal}{v:AVal}(h:SX H args=some v):cP W0 362 args H v H:=by
 unfold SX at h;split at h
 ·rename_i y sep;split at h
  ·rename_i ys m hy;split at h
   ·rename_i l hl;cases hc:(bK (N l) 1000000&&bK (N<|iF l sep) 1000000)with
    |false=>rw[hc]at h;cases h
    |true=>rw[hc,cond_true]at h;injection h with h;subst h;simp only[bAt]at hc;have h1:=aO hc.1;have h2:=aO hc.2;exact lJoin hy hl Y Y
   ·cases h
  ·cases h
 ·cases h
theorem Qb (hw:Lw W0):En gH W0 libTab:=by
 intro f args H v H' h;unfold libTab at h;simp only at h;have step:∀{g:Nat}{o:Option AVal}{r:Option (AVal×Hz)},cond (aA f g) (match o with|some v=>some (v,H)|none=>none) r=some (v,H')→(o=some v→cP W0 g args H v H)→(r=some (v,H')→cP W0 f args H v H')→cP W0 f args H v H':=by
  intro g o r h1 h2 h3;cases hb:aA f g with
  |false=>rw[hb]at h1;exact h3 h1
  |true=>
   rw[hb,cond_true]at h1;have:=nBq hb;subst this;cases o with
   |none=>cases h1
   |some x=>simp only[iS,iP]at h1;obtain⟨rfl,rfl⟩:=h1;exact h2 Z
 cases h0:bK f 90 with
 |true=>rw[h0]at h;cases h
 |false=>rw[h0,cond_false]at h;refine step h (LA hw) λh=>?_;refine step h (NQ hw) λh=>?_;refine step h (CZ hw) λh=>?_;refine step h (tCut_ok hw) λh=>?_;refine step h (OE hw) λh=>?_;refine step h (SN hw) λh=>?_;refine step h (PW hw) λh=>?_;refine step h (SH hw) λh=>?_;refine step h (OP hw) λh=>?_;exact step h RD λh=>Hq
end Go.Abs
namespace Go.Abs
open Go.Proofs Go.RowKit
set_option maxRecDepth 100000
theorem BH :Ql gH 224 4:=by
 intro args w hl;obtain⟨a,b,c,d,rfl⟩:∃a b c d,args=[a,b,c,d]:=by match args,hl with| [a,b,c,d],_=>grind
 have hn:∀w:World,(binOp BinOp.neq 20 .nilIface .nilIface).run gH w= .ok (.bool false) w:=λ_=>by kernel_rfl
 refine callsD_of_wpS Tryz.func224 rfl λc₀ cs hu=>?_;apply wpS_seq;apply wpS_region;simp[wpOpsS,go_sem,recoverD,hu,Tryz.ntmps224,Exit.thenS];apply wpS_seq;apply wpS_region;simp[wpOpsS,go_sem,Exit.thenS,fE,hn];refine wpS_cond (t:=false) (by simp[Act.eval]) ?_;simp only[bFt,if_false];refine wpS_of_wp<|wp_skip ?_;cases c₀;simp_all[bodyPostS,results]
end Go.Abs
namespace Go.Abs
open Go.Proofs Go.RowKit
def GL :List (Nat×AVal):=[
 (3,aR 1 [S [60,62],S [60,61],S [62,61],S [61],S [60],S [62],S [38],S [43],S [45],S [42],S [47],S [94],S [37],S [40],S [41],S [44],S [59],S [58],S [123],S [125]]),
 (4,aR 1 [S [35,78,85,76,76,33],S [35,68,73,86,47,48,33],S [35,86,65,76,85,69,33],S [35,82,69,70,33],S [35,78,65,77,69,63],S [35,78,85,77,33],S [35,78,47,65],S [35,83,80,73,76,76,33],S [35,67,73,82,67,33]])]
def Hr (_:Nat):Bool:=false
def G0 (g:Nat):Option Nat:=cond (aA g 224) (some 4) none
noncomputable def run (d:Nat):CallF:=J1 gH GL Hr G0 libTab (λcall ops s=>Zw gH GL call ops s) 1000 d
theorem run_ok {W0:World}(hg:GOK W0 GL)(hw:Lw W0)(d:Nat):En gH W0 (run d):=by
 refine Rn hg (λg m h=>?_) (Qb hw) (λcall hc=>HQ Ar hg hc) 1000 d;unfold G0 at h;cases hg:aA g 224 with
 |false=>rw[hg]at h;cases h
 |true=>rw[hg,cond_true]at h;injection h with h;subst h;have:=nBq hg;subst this;exact⟨BH,F2 Ar⟩
structure Ent where
 f:Nat
 args:List AVal
 v:AVal
def Dh (P:Program)(W0:World)(e:Ent):Prop:=A8 0 e.args=true∧blw 0 e.v=true∧A5 P W0 e.f e.args [] e.v []
def AE :List Ent→CallF
 | [],_,_,_=>none|e::r,f,args,H=>cond (aA f e.f) (cond (O5 args e.args) (some (e.v,H))<|AE r f args H)<|AE r f args H
theorem Xj {P:Program}{W0:World}:∀{l:List Ent},(∀e∈l,Dh P W0 e)→En P W0 (AE l)
 | [],_,_,_,_,_,_,h=>Hq|e::r,hl,f,args,H,v,H',h=>by have ih:=Xj (l:=r) λe he=>hl e (by simp[he]);simp only[AE]at h;cases h1:aA f e.f with|false=>rw[h1]at h;exact ih _ _ _ _ _ h|true=>rw[h1,cond_true]at h;cases h2:O5 args e.args with|false=>rw[h2]at h;exact ih _ _ _ _ _ h|true=>rw[h2,cond_true]at h;simp only[iS,iP]at h;obtain⟨rfl,rfl⟩:=h;have:=nBq h1;subst this;rw[J2 _ _ h2];obtain⟨k1,k2,k3⟩:=hl e B4;exact hO k1 k2 k3 H
noncomputable def Kw (l:List Ent)(d:Nat):CallF:=J1 gH GL Hr G0 (λf args H=>match libTab f args H with|some r=>some r|none=>AE l f args H) (λcall ops s=>Zw gH GL call ops s) 1000 d
structure Kn (W0:World):Prop where
 g:GOK W0 GL
 w:Lw W0
theorem runT_ok {W0:World}(hk:Kn W0){l:List Ent}(hl:∀e∈l,Dh gH W0 e)(d:Nat):En gH W0 (Kw l d):=by
 refine Rn hk.g (λg m h=>?_) (λf args H v H' h=>?_) (λcall hc=>HQ Ar hk.g hc) 1000 d
 ·unfold G0 at h;cases hg:aA g 224 with
  |false=>rw[hg]at h;cases h
  |true=>rw[hg,cond_true]at h;injection h with h;subst h;have:=nBq hg;subst this;exact⟨BH,F2 Ar⟩
 ·split at h;·rename_i r hr;injection h with h;subst h;exact Qb hk.w _ _ _ _ _ hr
  ·exact Xj hl _ _ _ _ _ h
theorem Eq {W0:World}(hk:Kn W0){l:List Ent}(hl:∀e∈l,Dh gH W0 e){d f:Nat}{args:List AVal}{v:AVal}(h:Kw l d f args []=some (v,[]))(h1:A8 0 args=true)(h2:blw 0 v=true):Dh gH W0 ⟨f,args,v⟩:=⟨h1,h2,runT_ok hk hl d _ _ _ _ _ h⟩
theorem Dw {P:Program}{W0:World}:∀e∈([]:List Ent),Dh P W0 e:=λe h=>Hq
theorem L5 {P:Program}{W0:World}{e:Ent}{l:List Ent}(h:Dh P W0 e)(hl:∀e∈l,Dh P W0 e):∀e'∈e::l,Dh P W0 e':=λe' h'=>by grind
theorem cK {W0:World}(hk:Kn W0){f:Nat}{x:List AVal}{v:AVal}(h:Kw [] 60 f x []=some (v,[]):=by kernel_rfl)(h1:A8 0 x=true:=by kernel_rfl)(h2:blw 0 v=true:=by kernel_rfl):cP W0 f x [] v []:=(Eq hk Dw h h1 h2).2.2
end Go.Abs
namespace Go.Abs
abbrev zI :AVal:=J U 0
abbrev zB :AVal:=I false
abbrev zT :AVal:=S []
abbrev jI (n:Int):AVal:=J U n
def N0 (a b:Int):AVal:=aG [zT,jI a,jI b,zB,zB,zB]
def N1 (a b:Int):AVal:=aG [zT,jI a,jI b,I true,zB,zB]
def N2 (a b:Int):AVal:=aG [zT,jI a,jI b,zB,I true,zB]
def N3 (a b:Int):AVal:=aG [S [83],jI a,jI b,zB,zB,zB]
def N4 (a b:Int):AVal:=aG [S [83],jI a,jI b,I true,zB,zB]
def N5 (a b:Int):AVal:=aG [S [83],jI a,jI b,zB,I true,zB]
def N6 (a b:Int):AVal:=aG [S [84,119,111,32,120],jI a,jI b,zB,zB,zB]
def N7 (a b:Int):AVal:=aG [S [84,119,111,32,120],jI a,jI b,I true,zB,zB]
def N8 (a b:Int):AVal:=aG [S [84,119,111,32,120],jI a,jI b,zB,I true,zB]
def N9 (a b:Int):AVal:=aG [S [116,104,105,114,100],jI a,jI b,zB,zB,zB]
def N10 (a b:Int):AVal:=aG [S [116,104,105,114,100],jI a,jI b,I true,zB,zB]
def N11 (a b:Int):AVal:=aG [S [116,104,105,114,100],jI a,jI b,zB,I true,zB]
def N12 (a:Bz)(b c:Int)(d e:Bool):AVal:=aG [S a,jI b,jI c,I d,I e,zB]
def N13 :AVal:=aU [aG [jI 1,zI],zI]
def N14 (a:Bz)(b c:Int)(d e:Bool):AVal:=aU [N12 a b c d e,zI]
def N15 (a:Bz)(b:Int):AVal:=aG [jI 5,S a,jI b]
def N16 (a:Int):AVal:=aG [jI 8,S [43],jI a]
def N17 (a:Int):AVal:=aG [jI 1,S [49],jI a]
def N18 (a:Bz)(b c d:Int):AVal:=aR 3 [N15 a b,N16 c,N17 d]
def N19 (a:Bz)(b c:Int)(d e:Bool):AVal:=aG [jI 5,zT,zI,zI,zB,zI,S a,jI b,jI c,I d,I e,zB,zT,zI,zI,zB,zB,zB,zI,aN]
def N20 :AVal:=aG [jI 1,zT,jI 1,zI,zB,zI,zT,zI,zI,zB,zB,zB,zT,zI,zI,zB,zB,zB,zI,aN]
def N21 (a:Bz)(b c:Int)(d e:Bool):AVal:=aU [aG [jI 9,S [43],zI,zI,zB,zI,zT,zI,zI,zB,zB,zB,zT,zI,zI,zB,zB,zB,zI,aR 20 [N19 a b c d e,N20]],zI,zI]
def N22 (a:Bz)(b c d:Int):AVal:=aU [N18 a b c d,zI,zI]
def N23 (a:Int):AVal:=aG [jI 8,S [42],jI a]
def N24 (a:Bz)(b c:Int)(d:Bz)(e:Int):AVal:=aR 3 [N15 a b,N23 c,N15 d e]
def N25 (a:Bz)(b c:Int)(d e:Bool)(f:Bz)(g h:Int)(i j:Bool):AVal:=aU [aG [jI 9,S [42],zI,zI,zB,zI,zT,zI,zI,zB,zB,zB,zT,zI,zI,zB,zB,zB,zI,aR 20 [N19 a b c d e,N19 f g h i j]],zI,zI]
def N26 (a:Bz)(b c:Int)(d:Bz)(e:Int):AVal:=aU [N24 a b c d e,zI,zI]
def N27 (a b:Int)(c d:Bool):AVal:=aG [zT,jI a,jI b,I c,I d,zB]
def N28 (a b:Int)(c d:Bool):AVal:=aU [N27 a b c d,zI]
def N29 (a:Int):AVal:=aG [jI 8,S [40],jI a]
def N30 (a:Int):AVal:=aG [jI 8,S [58],jI a]
def N31 (a:Int):AVal:=aG [jI 8,S [41],jI a]
def N32 (a b:Int)(c:Bz)(d e:Int)(f:Bz)(g h:Int):AVal:=aR 3 [aG [jI 7,S [83,85,77],jI a],N29 b,N15 c d,N30 e,N15 f g,N31 h]
def N33 (a:Bz)(b c:Int)(d e:Bool)(f g:Int)(h i:Bool):AVal:=aG [jI 6,zT,zI,zI,zB,zI,S a,jI b,jI c,I d,I e,zB,zT,jI f,jI g,I h,I i,zB,zI,aN]
def N34 (a:Bz)(b c:Int)(d e:Bool)(f g:Int)(h i:Bool):AVal:=aU [aG [jI 12,S [83,85,77],zI,zI,zB,zI,zT,zI,zI,zB,zB,zB,zT,zI,zI,zB,zB,zB,zI,aR 20 [N33 a b c d e f g h i]],zI,zI]
def N35 (a b:Int)(c:Bz)(d e:Int)(f:Bz)(g h:Int):AVal:=aU [N32 a b c d e f g h,zI,zI]
def N36 :AVal:=aU [aG [zI,zI],zI]
def N37 :AVal:=aU [aG [jI 2,zI],zI]
def N38 (a:Int):AVal:=aG [jI 1,S [50],jI a]
def N39 (a:Int):AVal:=aG [jI 8,S [44],jI a]
def N40 (a b:Int)(c:Bz)(d e f g:Int)(h:Bz)(i j k l:Int):AVal:=aR 3 [aG [jI 7,S [73,70],jI a],N29 b,N15 c d,aG [jI 8,S [62],jI e],N38 f,N39 g,N15 h i,N39 j,aG [jI 1,S [48],jI k],N31 l]
def N41 :AVal:=aG [jI 1,zT,jI 2,zI,zB,zI,zT,zI,zI,zB,zB,zB,zT,zI,zI,zB,zB,zB,zI,aN]
def N42 (a:Bz)(b c:Int)(d e:Bool):AVal:=aR 20 [N19 a b c d e,N41]
def N43 (a:Bz)(b c:Int)(d e:Bool)(f:Bz)(g h:Int)(i j:Bool):AVal:=aU [aG [jI 12,S [73,70],zI,zI,zB,zI,zT,zI,zI,zB,zB,zB,zT,zI,zI,zB,zB,zB,zI,aR 20 [aG [jI 9,S [62],zI,zI,zB,zI,zT,zI,zI,zB,zB,zB,zT,zI,zI,zB,zB,zB,zI,N42 a b c d e],N19 f g h i j,aG [jI 1,zT,zI,zI,zB,zI,zT,zI,zI,zB,zB,zB,zT,zI,zI,zB,zB,zB,zI,aN]]],zI,zI]
def N44 (a b:Int)(c:Bz)(d e f g:Int)(h:Bz)(i j k l:Int):AVal:=aU [N40 a b c d e f g h i j k l,zI,zI]
def N45 :AVal:=aU [aG [jI 4,zI],zI]
def N46 :AVal:=aU [aG [jI 3,zI],zI]
def N47 (a b c d e f g h i j:Int)(k:Bz)(l:Int):AVal:=aR 3 [aG [jI 8,S [123],jI a],N17 b,N39 c,N38 d,aG [jI 8,S [59],jI e],aG [jI 1,S [51],jI f],N39 g,aG [jI 1,S [52],jI h],aG [jI 8,S [125],jI i],N16 j,N15 k l]
def N48 (a:Bz)(b c:Int)(d e:Bool):AVal:=aU [aG [jI 9,S [43],zI,zI,zB,zI,zT,zI,zI,zB,zB,zB,zT,zI,zI,zB,zB,zB,zI,aR 20 [aG [jI 13,zT,zI,zI,zB,zI,zT,zI,zI,zB,zB,zB,zT,zI,zI,zB,zB,zB,jI 2,aR 20 [N20,N41,aG [jI 1,zT,jI 3,zI,zB,zI,zT,zI,zI,zB,zB,zB,zT,zI,zI,zB,zB,zB,zI,aN],aG [jI 1,zT,jI 4,zI,zB,zI,zT,zI,zI,zB,zB,zB,zT,zI,zI,zB,zB,zB,zI,aN]]],N19 a b c d e]],zI,zI]
def N49 (a b c d e f g h i j:Int)(k:Bz)(l:Int):AVal:=aU [N47 a b c d e f g h i j k l,zI,zI]
def N50 (a:Bz)(b c:Int)(d:Bz)(e f g:Int):AVal:=aR 3 [N15 a b,N30 c,N15 d e,N23 f,N38 g]
def N51 (a:Bz)(b c:Int)(d e:Bool)(f g:Int)(h i:Bool):AVal:=aU [aG [jI 9,S [42],zI,zI,zB,zI,zT,zI,zI,zB,zB,zB,zT,zI,zI,zB,zB,zB,zI,aR 20 [N33 a b c d e f g h i,N41]],zI,zI]
def N52 (a:Bz)(b c:Int)(d:Bz)(e f g:Int):AVal:=aU [N50 a b c d e f g,zI,zI]
def N53 :AVal:=aU [aG [zT,zI,zI,zB,zB,zB],jI 20]
def N54 (a:Int):AVal:=aG [jI 6,S [120],jI a]
def N55 (a:Int):AVal:=aG [jI 8,S [45],jI a]
def N56 (a b c d:Int)(e:Bz)(f g h i j k:Int)(l:Bz)(m n:Int):AVal:=aR 3 [aG [jI 7,S [76,69,84],jI a],N29 b,N54 c,N39 d,N15 e f,N39 g,N54 h,N23 i,N54 j,N55 k,N15 l m,N31 n]
def N57 :AVal:=aG [jI 7,S [120],zI,zI,zB,zI,zT,zI,zI,zB,zB,zB,zT,zI,zI,zB,zB,zB,zI,aN]
def N58 (a:Bz)(b c:Int)(d e:Bool)(f:Bz)(g h:Int)(i j:Bool):AVal:=aU [aG [jI 16,S [120],zI,zI,zB,zI,zT,zI,zI,zB,zB,zB,zT,zI,zI,zB,zB,zB,zI,aR 20 [N19 a b c d e,aG [jI 9,S [45],zI,zI,zB,zI,zT,zI,zI,zB,zB,zB,zT,zI,zI,zB,zB,zB,zI,aR 20 [aG [jI 9,S [42],zI,zI,zB,zI,zT,zI,zI,zB,zB,zB,zT,zI,zI,zB,zB,zB,zI,aR 20 [N57,N57]],N19 f g h i j]]]],zI,zI]
def N59 (a b c d:Int)(e:Bz)(f g h i j k:Int)(l:Bz)(m n:Int):AVal:=aU [N56 a b c d e f g h i j k l m n,zI,zI]
def N60 (a:Int):AVal:=aG [jI 6,S [110],jI a]
def N61 (a b c d e f g h i j k l m n o p q r s t u v w x y z a26 a27 a28:Int)(a29:Bz)(a30 a31 a32:Int):AVal:=aR 3 [aG [jI 7,S [76,69,84],jI a],N29 b,aG [jI 6,S [102],jI c],N39 d,aG [jI 7,S [76,65,77,66,68,65],jI e],N29 f,N60 g,N39 h,aG [jI 7,S [73,70],jI i],N29 j,N60 k,aG [jI 8,S [60],jI l],N17 m,N39 n,N17 o,N39 p,N60 q,N23 r,aG [jI 7,S [102],jI s],N29 t,N60 u,N55 v,N17 w,N31 x,N31 y,N31 z,N39 a26,aG [jI 7,S [102],jI a27],N29 a28,N15 a29 a30,N31 a31,N31 a32]
def N62 :AVal:=aG [jI 7,S [110],zI,zI,zB,zI,zT,zI,zI,zB,zB,zB,zT,zI,zI,zB,zB,zB,zI,aN]
def N63 :AVal:=aR 20 [N62,N20]
def N64 (a:Bz)(b c:Int)(d e:Bool):AVal:=aR 20 [N19 a b c d e]
def N65 (a:Bz)(b c:Int)(d e:Bool):AVal:=aU [aG [jI 16,S [102],zI,zI,zB,zI,zT,zI,zI,zB,zB,zB,zT,zI,zI,zB,zB,zB,zI,aR 20 [aG [jI 14,S [110],zI,zI,zB,zI,zT,zI,zI,zB,zB,zB,zT,zI,zI,zB,zB,zB,zI,aR 20 [aG [jI 12,S [73,70],zI,zI,zB,zI,zT,zI,zI,zB,zB,zB,zT,zI,zI,zB,zB,zB,zI,aR 20 [aG [jI 9,S [60],zI,zI,zB,zI,zT,zI,zI,zB,zB,zB,zT,zI,zI,zB,zB,zB,zI,N63],N20,aG [jI 9,S [42],zI,zI,zB,zI,zT,zI,zI,zB,zB,zB,zT,zI,zI,zB,zB,zB,zI,aR 20 [N62,aG [jI 12,S [70],zI,zI,zB,zI,zT,zI,zI,zB,zB,zB,zT,zI,zI,zB,zB,zB,zI,aR 20 [aG [jI 9,S [45],zI,zI,zB,zI,zT,zI,zI,zB,zB,zB,zT,zI,zI,zB,zB,zB,zI,N63]]]]]]]]],aG [jI 12,S [70],zI,zI,zB,zI,zT,zI,zI,zB,zB,zB,zT,zI,zI,zB,zB,zB,zI,N64 a b c d e]]],zI,zI]
def N66 (a b c d e f g h i j k l m n o p q r s t u v w x y z a26 a27 a28:Int)(a29:Bz)(a30 a31 a32:Int):AVal:=aU [N61 a b c d e f g h i j k l m n o p q r s t u v w x y z a26 a27 a28 a29 a30 a31 a32,zI,zI]
def N67 (a:Bz)(b c d:Int):AVal:=aR 3 [N15 a b,aG [jI 8,S [38],jI c],aG [jI 2,S [97],jI d]]
def N68 (a:Bz)(b c:Int)(d e:Bool):AVal:=aU [aG [jI 9,S [38],zI,zI,zB,zI,zT,zI,zI,zB,zB,zB,zT,zI,zI,zB,zB,zB,zI,aR 20 [N19 a b c d e,aG [jI 2,S [97],zI,zI,zB,zI,zT,zI,zI,zB,zB,zB,zT,zI,zI,zB,zB,zB,zI,aN]]],zI,zI]
def N69 (a:Bz)(b c d:Int):AVal:=aU [N67 a b c d,zI,zI]
def N70 (a b:Int)(c:Bz)(d:Int):AVal:=aR 3 [N17 a,aG [jI 8,S [47],jI b],N15 c d]
def N71 (a:Bz)(b c:Int)(d e:Bool):AVal:=aU [aG [jI 9,S [47],zI,zI,zB,zI,zT,zI,zI,zB,zB,zB,zT,zI,zI,zB,zB,zB,zI,aR 20 [N20,N19 a b c d e]],zI,zI]
def N72 (a b:Int)(c:Bz)(d:Int):AVal:=aU [N70 a b c d,zI,zI]
def N73 :AVal:=aG [zT,zI,zI,zB,zB,I true]
def N74 :AVal:=aU [N73,zI]
def N75 (a b:Int)(c:Bz)(d:Int):AVal:=aR 3 [aG [jI 5,S [35,82,69,70,33],jI a],N16 b,N15 c d]
def N76 (a:Bz)(b c:Int)(d e:Bool):AVal:=aU [aG [jI 9,S [43],zI,zI,zB,zI,zT,zI,zI,zB,zB,zB,zT,zI,zI,zB,zB,zB,zI,aR 20 [aG [jI 5,zT,zI,zI,zB,zI,zT,zI,zI,zB,zB,I true,zT,zI,zI,zB,zB,zB,zI,aN],N19 a b c d e]],zI,zI]
def N77 (a b:Int)(c:Bz)(d:Int):AVal:=aU [N75 a b c d,zI,zI]
def N78 (a:Int)(b:Bz)(c d:Int):AVal:=aR 3 [N55 a,N15 b c,aG [jI 8,S [37],jI d]]
def N79 (a:Bz)(b c:Int)(d e:Bool):AVal:=aU [aG [jI 11,S [37],zI,zI,zB,zI,zT,zI,zI,zB,zB,zB,zT,zI,zI,zB,zB,zB,zI,aR 20 [aG [jI 10,S [45],zI,zI,zB,zI,zT,zI,zI,zB,zB,zB,zT,zI,zI,zB,zB,zB,zI,N64 a b c d e]]],zI,zI]
def N80 (a:Int)(b:Bz)(c d:Int):AVal:=aU [N78 a b c d,zI,zI]
def N81 (a b:Int)(c:Bz)(d e:Int)(f:Bz)(g h:Int)(i:Bz)(j k:Int):AVal:=aR 3 [aG [jI 7,S [67,79,85,78,84],jI a],N29 b,N15 c d,N30 e,N15 f g,N39 h,N15 i j,N31 k]
def N82 (a:Bz)(b c:Int)(d e:Bool)(f g:Int)(h i:Bool)(j:Bz)(k l:Int)(m n:Bool):AVal:=aU [aG [jI 12,S [67,79,85,78,84],zI,zI,zB,zI,zT,zI,zI,zB,zB,zB,zT,zI,zI,zB,zB,zB,zI,aR 20 [N33 a b c d e f g h i,N19 j k l m n]],zI,zI]
def N83 (a b:Int)(c:Bz)(d e:Int)(f:Bz)(g h:Int)(i:Bz)(j k:Int):AVal:=aU [N81 a b c d e f g h i j k,zI,zI]
def N84 (a b:Int)(c:Bz)(d:Int):AVal:=aR 3 [aG [jI 6,S [114,97,116,101],jI a],N23 b,N15 c d]
def N85 (a:Bz)(b c:Int)(d e:Bool):AVal:=aU [aG [jI 9,S [42],zI,zI,zB,zI,zT,zI,zI,zB,zB,zB,zT,zI,zI,zB,zB,zB,zI,aR 20 [aG [jI 7,S [114,97,116,101],zI,zI,zB,zI,zT,zI,zI,zB,zB,zB,zT,zI,zI,zB,zB,zB,zI,aN],N19 a b c d e]],zI,zI]
def N86 (a b:Int)(c:Bz)(d:Int):AVal:=aU [N84 a b c d,zI,zI]
def N87 (a b:Int)(c:Bz)(d:Int):AVal:=aR 3 [aG [jI 6,S [79,119,110],jI a],N16 b,N15 c d]
def N88 (a:Bz)(b c:Int)(d e:Bool):AVal:=aU [aG [jI 9,S [43],zI,zI,zB,zI,zT,zI,zI,zB,zB,zB,zT,zI,zI,zB,zB,zB,zI,aR 20 [aG [jI 7,S [79,119,110],zI,zI,zB,zI,zT,zI,zI,zB,zB,zB,zT,zI,zI,zB,zB,zB,zI,aN],N19 a b c d e]],zI,zI]
def N89 (a b:Int)(c:Bz)(d:Int):AVal:=aU [N87 a b c d,zI,zI]
def N90 (a b c d e:Int)(f:Bz)(g:Int):AVal:=aR 3 [aG [jI 7,S [83,85,77],jI a],N29 b,aG [jI 9,S [84,97,98,91,120,93],jI c],N31 d,N16 e,N15 f g]
def N91 (a:Bz)(b c:Int)(d e:Bool):AVal:=aU [aG [jI 9,S [43],zI,zI,zB,zI,zT,zI,zI,zB,zB,zB,zT,zI,zI,zB,zB,zB,zI,aR 20 [aG [jI 12,S [83,85,77],zI,zI,zB,zI,zT,zI,zI,zB,zB,zB,zT,zI,zI,zB,zB,zB,zI,aR 20 [aG [jI 8,S [84,97,98,91,120,93],zI,zI,zB,zI,zT,zI,zI,zB,zB,zB,zT,zI,zI,zB,zB,zB,zI,aN]]],N19 a b c d e]],zI,zI]
def N92 (a b c d e:Int)(f:Bz)(g:Int):AVal:=aU [N90 a b c d e f g,zI,zI]
def N93 (a b c:Int):AVal:=aG [jI a,jI b,jI c]
def N94 (a:Bz)(b c:Int):AVal:=aG [S a,jI b,jI c,zB,zB,zB]
def N95 (a:Bz)(b:Int):AVal:=aR 3 [N15 a b]
def N96 (a:Bz)(b c:Int)(d e:Bool):AVal:=aU [N19 a b c d e,zI,zI]
def N97 (a:Bz)(b:Int):AVal:=aU [N95 a b,zI,zI]
def N98 (a:Bz)(b c d:Int):AVal:=aR 3 [N15 a b,N23 c,N38 d]
def N99 (a:Bz)(b c:Int)(d e:Bool):AVal:=aU [aG [jI 9,S [42],zI,zI,zB,zI,zT,zI,zI,zB,zB,zB,zT,zI,zI,zB,zB,zB,zI,N42 a b c d e],zI,zI]
def N100 (a:Bz)(b c d:Int):AVal:=aU [N98 a b c d,zI,zI]
def Bn (a b:Int):HObj:=C 54 [jI a,jI b] false
def N102 :AVal:=aU [aG [zI,zI],jI 10]
def Hm (a:Int):HObj:=C 54 [jI 1,jI a] false
def Gw :HObj:=C 54 [zI,zI] false
def Tz (a b c:Int):AVal:=aU [aG [jI a,jI b],jI c]
def OH (a b c:Int)(d:Bz)(e:Bool):HObj:=C 56 [jI a,jI b,jI c,S d,I e] false
def IQ :HObj:=C 132 [zI,zI,zI,zT,zB,zI,zI,zI,aN,zI,aN,aN] false
def DL (a b:Int):AVal:=aU [aG [jI a,jI b],zI]
def EN (a b c:Int)(d:Bz)(e:Bool):AVal:=aG [jI a,jI b,jI c,S d,I e]
def N110 (a b:Int):AVal:=aG [jI 1,jI a,jI b,zT,zB,zI,zI,zI,aN,zI,aN,aN]
def NY (a b:Int):AVal:=aU [aG [jI a,jI b],jI 10]
def N112 :AVal:=aG [jI 1,zI,zI,zT,zB,zI,zI,zI,aN,zI,aN,aN]
def Oc (a:Bz):AVal:=aG [jI 2,zI,zI,S a,zB,zI,zI,zI,aN,zI,aN,aN]
def N114 (a b:Int)(c:Bz)(d:Bool)(e:Int):AVal:=aG [zI,jI a,jI b,S c,I d,jI e,zI,zI,aN,zI,aN,aN]
def N115 (a b:Int)(c:Bz)(d:Bool)(e:Int):AVal:=aG [jI 1,jI a,jI b,S c,I d,jI e,zI,zI,aN,zI,aN,aN]
def N116 (a b:Int)(c:Bz)(d:Bool)(e:Int):AVal:=aG [jI 3,jI a,jI b,S c,I d,jI e,zI,zI,aN,zI,aN,aN]
def N117 (a b:Int)(c:Bz)(d:Bool)(e:Int):AVal:=aG [jI 4,jI a,jI b,S c,I d,jI e,zI,zI,aN,zI,aN,aN]
def N118 :AVal:=aU [S [70,65,76,83,69],zI]
def N119 :AVal:=aU [S [35,78,85,76,76,33],zI]
def N120 :AVal:=aU [S [35,68,73,86,47,48,33],zI]
def N121 :AVal:=aU [S [35,86,65,76,85,69,33],zI]
def N122 :AVal:=aU [S [35,82,69,70,33],zI]
def N123 :AVal:=aU [S [35,78,65,77,69,63],zI]
def N124 :AVal:=aU [S [35,78,85,77,33],zI]
def N125 :AVal:=aU [S [35,83,80,73,76,76,33],zI]
def N126 :AVal:=aU [S [35,67,73,82,67,33],zI]
end Go.Abs
namespace Go.Abs
open Go.Proofs Go.RowKit
set_option maxRecDepth 10000000
variable {W0 : World}
def Og (f:Nat):Bool:=cond (aA f 166) true<|aA f 167
def Qe (_:Nat):Bool:=false
def Oe (f:Nat):Bool:=cond (aA f 126) true<|cond (aA f 38) true<|aA f 111
theorem idleK {g m:Nat}(h:G0 g=some m):Ql gH g m∧E1 gH g:=by
 unfold G0 at h;cases hg:aA g 224 with
 |false=>rw[hg]at h;cases h
 |true=>rw[hg,cond_true]at h;injection h with h;subst h;have:=nBq hg;subst this;exact⟨BH,F2 Ar⟩
theorem H9 (hk:Kn W0)(opq:Nat→Bool):E3 gH W0 (Gj gH GL Hr opq G0 libTab 1000 60):=X7 Ar hk.g (λ_ _ h=>idleK h) (Qb hk.w) 1000 60
def Ba (op:BinOp)(a b:AVal):Bool:=match Yy op none a b with
 |some (I b,_)=>b|_=>false
theorem obE {P:Program}{b c:Bool}(h:b=c):Ob.ok P W0 (.eq b c):=h
theorem obV {P:Program}{a:AVal}:Ob.ok P W0 (.veq a a):=rfl
theorem obC {P:Program}{f:Nat}{args:List AVal}{H H':Hz}{v:AVal}(h:A5 P W0 f args H v H'):Ob.ok P W0 (.callH f args H v H'):=h
theorem obH {P:Program}{a:Hz}:Ob.ok P W0 (.hp a a):=rfl
def eqL :List Ob→List (Option AVal×Hz)
 | []=>[]|.veq a _::r=>(some a,[])::eqL r|.hp a _::r=>(none,a)::eqL r|_::r=>eqL r
def eqR :List Ob→List (Option AVal×Hz)
 | []=>[]|.veq _ a::r=>(some a,[])::eqR r|.hp _ a::r=>(none,a)::eqR r|_::r=>eqR r
def oLe :List Ob→Bool
 | []=>true|.le a b::r=>cond (decide<|a≤b) (oLe r) false|_::r=>oLe r
def Zq :List Ob→List Ob
 | []=>[]|.veq _ _::r=>Zq r|.hp _ _::r=>Zq r|.le _ _::r=>Zq r|o::r=>o::Zq r
theorem Rb {P:Program}:∀{l:List Ob},eqL l=eqR l→oLe l=true→(∀o∈Zq l,o.ok P W0)→∀o∈l,o.ok P W0
 | [],_,_,_,o,h=>Hq
 |.veq a b::r,h1,h2,h3,o,h=>by
  injection h1 with h1 h4;injection h1 with h1;injection h1 with h1;rcases eS.1 h with rfl|h;·exact h1
  ·exact Rb h4 h2 h3 o h
 |.hp a b::r,h1,h2,h3,o,h=>by
  injection h1 with h1 h4;injection h1 with _ h1;rcases eS.1 h with rfl|h;·exact h1
  ·exact Rb h4 h2 h3 o h
 |.le a b::r,h1,h2,h3,o,h=>by
  unfold oLe at h2;cases hd:decide (a≤b)with
  |false=>rw[hd]at h2;cases h2
  |true=>
   rw[hd]at h2;rcases eS.1 h with rfl|h;·exact(of_decide_eq_true hd:a≤b)
   ·exact Rb (l:=r) h1 h2 h3 o h
 |.eq a b::r,h1,h2,h3,o,h=>by
  rcases eS.1 h with rfl|h;·exact h3 _<|gX ..
  ·exact Rb (l:=r) h1 h2 (λo ho=>h3 o<|fF _ ho) o h
 |.call f x v::r,h1,h2,h3,o,h=>by
  rcases eS.1 h with rfl|h;·exact h3 _<|gX ..
  ·exact Rb (l:=r) h1 h2 (λo ho=>h3 o<|fF _ ho) o h
 |.callH f x H v H'::r,h1,h2,h3,o,h=>by
  rcases eS.1 h with rfl|h;·exact h3 _<|gX ..
  ·exact Rb (l:=r) h1 h2 (λo ho=>h3 o<|fF _ ho) o h
def finL :Option (AVal×Hz×SS)→Option (AVal×Hz×List Ob×Bool×List (Option AVal×Hz))
 |some (v,H,s)=>some (v,H,Zq s.obs,oLe s.obs,eqL s.obs)|none=>none
def finR :Option (AVal×Hz×SS)→List (Option AVal×Hz)
 |some (_,_,s)=>eqR s.obs|none=>[]
noncomputable def cS (opq:Nat→Bool)(f:Nat)(x:List AVal)(H:Hz)(s:SS):Option (AVal×Hz×SS):=Gj gH GL Hr opq G0 libTab 1000 60 f x H s
theorem C9 (hk:Kn W0)(opq:Nat→Bool){f:Nat}{x:List AVal}{H H':Hz}{v:AVal}{obs:List Ob}(s:SS)(h:finL (cS opq f x H s)=some (v,H',obs,true,finR<|cS opq f x H s))(hg:∀o∈obs,o.ok gH W0):cP W0 f x H v H':=by
 cases hr:cS opq f x H s with
 |none=>rw[hr]at h;cases h
 |some y=>obtain⟨v1,H1,s1⟩:=y;rw[hr]at h;simp only[finL,finR,iS,iP]at h;obtain⟨rfl,rfl,rfl,h1,h2⟩:=h;exact Eo (H9 hk opq) hr<|Rb h2 h1 hg
abbrev oC (W0:World)(f:Nat)(x:List AVal)(v:AVal):Prop:=Ob.ok gH W0<|.call f x v
theorem gdE (b c:Bool){l:List Ob}(hl:∀o∈l,o.ok Tryz.prog W0)(h:b=c:=by first|(simp[Ba,Yy,CQ,EL,Ws,IntKind.wrap_i32];done)|(simp[Ba,Yy,CQ,EL,Ws,IntKind.wrap_i32];omega)):∀o'∈Ob.eq b c::l,o'.ok Tryz.prog W0:=gdC (obE h) hl
def Vt (f:Nat):Bool:=cond (bK 100 f) (bK f 104) false
def Vq (f:Nat):Bool:=cond (aA f 180) true<|cond (aA f 184) true<|cond (aA f 185) true<|cond (aA f 38) true<|cond (aA f 237) true<|cond (aA f 109) true<|cond (aA f 238) true<|aA f 68
theorem rt00 (hk:Kn W0){a10 a20:Int}{c d:UInt8}(hc:65≤c.toNat∧c.toNat≤69)(hd:49≤d.toNat∧d.toNat≤56)(h1:oC W0 104 [jI<|U.wrap<|a10+1]<|S [d])(h2:oC W0 103 [jI a20]<|aU [S [c],zI])(h3:oC W0 100 [N0 a10 a20]<|I true):cP W0 67 [N0 a10 a20] [] (aU [S [c,d],zI]) []:=C9 hk Vt (ss0 1 [] 2 [] [(I true,none),(aU [S [c],zI],none),(S [d],none)] []) Ar<|gdC h1<|gdC h2<|gdC h3 gdN
theorem rr00 (hk:Kn W0){a20 a30:Int}{c d:UInt8}(hc:65≤c.toNat∧c.toNat≤69)(hd:49≤d.toNat∧d.toNat≤56)(h1:oC W0 38 [N0 (U.wrap<|a30-1) a20]<|I true)(h2:oC W0 185 [jI a30]<|S [d])(h3:oC W0 184 [S [d]]<|aU [jI a30,.nilIf])(h4:oC W0 109 [S [d],S [36]]<|aU [S [d],zB])(h5:oC W0 180 [S [c]]<|aU [jI a20,zI])(h6:oC W0 109 [S [c,d],S [36]]<|aU [S [c,d],zB])(h7:oC W0 237 [S [c,d],J .u8 33]<|jI<|-1):cP W0 126 [S [c,d]] [] (aU [N0 (U.wrap<|a30-1) a20,zI]) []:=C9 hk Vq (ss0 0 [(false,2),(true,0),(true,1),(false,0),(false,1),(true,0),(true,4),(false,0)] 7 [] [(jI<|-1,none),(aU [S [c,d],zB],none),(aU [jI a20,zI],none),(aU [S [d],zB],none),(aU [jI a30,.nilIf],none),(S [d],none),(I true,none)] []) Ar<|gdC h1<|gdE (Ba .neq (S [d])<|S [d]) false<|gdC h2<|gdC h3<|gdE (Ba .leq (J .u8 d.toNat)<|J .u8 57) true<|gdE (Ba .geq (J .u8 d.toNat)<|J .u8 48) true<|gdC h4<|gdC h5<|gdE (Ba .geq (J .i32<|gE.wrap ((d.toNat:Nat):Int))<|J .i32 97) false<|gdE (Ba .geq (J .i32<|gE.wrap ((d.toNat:Nat):Int))<|J .i32 65) false<|gdE (Ba .leq (J .i32<|gE.wrap ((c.toNat:Nat):Int))<|J .i32 90) true<|gdE (Ba .geq (J .i32<|gE.wrap ((c.toNat:Nat):Int))<|J .i32 65) true<|gdC h6<|gdC h7<|gdE (Ba .eql (S [c,d])<|S [35,82,69,70,33]) false gdN
theorem rt01 (hk:Kn W0){a10 a20:Int}{c d:UInt8}(hc:65≤c.toNat∧c.toNat≤69)(hd:49≤d.toNat∧d.toNat≤56)(h1:oC W0 104 [jI<|U.wrap<|a10+1]<|S [d])(h2:oC W0 103 [jI a20]<|aU [S [c],zI])(h3:oC W0 100 [N1 a10 a20]<|I true):cP W0 67 [N1 a10 a20] [] (aU [S [c,36,d],zI]) []:=C9 hk Vt (ss0 1 [] 3 [] [(I true,none),(aU [S [c],zI],none),(S [d],none)] []) Ar<|gdC h1<|gdC h2<|gdC h3 gdN
theorem rr01 (hk:Kn W0){a20 a30:Int}{c d:UInt8}(hc:65≤c.toNat∧c.toNat≤69)(hd:49≤d.toNat∧d.toNat≤56)(h1:oC W0 38 [N1 (U.wrap<|a30-1) a20]<|I true)(h2:oC W0 185 [jI a30]<|S [d])(h3:oC W0 184 [S [d]]<|aU [jI a30,.nilIf])(h4:oC W0 109 [S [36,d],S [36]]<|aU [S [d],I true])(h5:oC W0 180 [S [c]]<|aU [jI a20,zI])(h6:oC W0 109 [S [c,36,d],S [36]]<|aU [S [c,36,d],zB])(h7:oC W0 237 [S [c,36,d],J .u8 33]<|jI<|-1):cP W0 126 [S [c,36,d]] [] (aU [N1 (U.wrap<|a30-1) a20,zI]) []:=C9 hk Vq (ss0 0 [(false,2),(true,0),(true,4),(true,0),(true,4),(false,0)] 7 [] [(jI<|-1,none),(aU [S [c,36,d],zB],none),(aU [jI a20,zI],none),(aU [S [d],I true],none),(aU [jI a30,.nilIf],none),(S [d],none),(I true,none)] []) Ar<|gdC h1<|gdE (Ba .neq (S [d])<|S [d]) false<|gdC h2<|gdC h3<|gdE (Ba .leq (J .u8 d.toNat)<|J .u8 57) true<|gdE (Ba .geq (J .u8 d.toNat)<|J .u8 48) true<|gdC h4<|gdC h5<|gdE (Ba .leq (J .i32<|gE.wrap ((c.toNat:Nat):Int))<|J .i32 90) true<|gdE (Ba .geq (J .i32<|gE.wrap ((c.toNat:Nat):Int))<|J .i32 65) true<|gdC h6<|gdC h7<|gdE (Ba .eql (S [c,36,d])<|S [35,82,69,70,33]) false gdN
theorem rt02 (hk:Kn W0){a10 a20:Int}{c d:UInt8}(hc:65≤c.toNat∧c.toNat≤69)(hd:49≤d.toNat∧d.toNat≤56)(h1:oC W0 104 [jI<|U.wrap<|a10+1]<|S [d])(h2:oC W0 103 [jI a20]<|aU [S [c],zI])(h3:oC W0 100 [N2 a10 a20]<|I true):cP W0 67 [N2 a10 a20] [] (aU [S [36,c,d],zI]) []:=C9 hk Vt (ss0 1 [] 3 [] [(I true,none),(aU [S [c],zI],none),(S [d],none)] []) Ar<|gdC h1<|gdC h2<|gdC h3 gdN
theorem rr02 (hk:Kn W0){a20 a30:Int}{c d:UInt8}(hc:65≤c.toNat∧c.toNat≤69)(hd:49≤d.toNat∧d.toNat≤56)(h1:oC W0 38 [N2 (U.wrap<|a30-1) a20]<|I true)(h2:oC W0 185 [jI a30]<|S [d])(h3:oC W0 184 [S [d]]<|aU [jI a30,.nilIf])(h4:oC W0 109 [S [d],S [36]]<|aU [S [d],zB])(h5:oC W0 180 [S [c]]<|aU [jI a20,zI])(h6:oC W0 109 [S [36,c,d],S [36]]<|aU [S [c,d],I true])(h7:oC W0 237 [S [36,c,d],J .u8 33]<|jI<|-1):cP W0 126 [S [36,c,d]] [] (aU [N2 (U.wrap<|a30-1) a20,zI]) []:=C9 hk Vq (ss0 0 [(false,2),(true,0),(true,1),(false,0),(false,1),(true,0),(true,4),(false,0)] 7 [] [(jI<|-1,none),(aU [S [c,d],I true],none),(aU [jI a20,zI],none),(aU [S [d],zB],none),(aU [jI a30,.nilIf],none),(S [d],none),(I true,none)] []) Ar<|gdC h1<|gdE (Ba .neq (S [d])<|S [d]) false<|gdC h2<|gdC h3<|gdE (Ba .leq (J .u8 d.toNat)<|J .u8 57) true<|gdE (Ba .geq (J .u8 d.toNat)<|J .u8 48) true<|gdC h4<|gdC h5<|gdE (Ba .geq (J .i32<|gE.wrap ((d.toNat:Nat):Int))<|J .i32 97) false<|gdE (Ba .geq (J .i32<|gE.wrap ((d.toNat:Nat):Int))<|J .i32 65) false<|gdE (Ba .leq (J .i32<|gE.wrap ((c.toNat:Nat):Int))<|J .i32 90) true<|gdE (Ba .geq (J .i32<|gE.wrap ((c.toNat:Nat):Int))<|J .i32 65) true<|gdC h6<|gdC h7<|gdE (Ba .eql (S [36,c,d])<|S [35,82,69,70,33]) false gdN
theorem rt10 (hk:Kn W0){a10 a20:Int}{c d:UInt8}(hc:65≤c.toNat∧c.toNat≤69)(hd:49≤d.toNat∧d.toNat≤56)(h1:oC W0 104 [jI<|U.wrap<|a10+1]<|S [d])(h2:oC W0 103 [jI a20]<|aU [S [c],zI])(h3:oC W0 101 [S [83]]<|I true)(h4:oC W0 100 [N3 a10 a20]<|I true):cP W0 67 [N3 a10 a20] [] (aU [S [83,33,c,d],zI]) []:=C9 hk Vt (ss0 1 [] 3 [] [(I true,none),(I true,none),(aU [S [c],zI],none),(S [d],none)] []) Ar<|gdC h1<|gdC h2<|gdC h3<|gdC h4 gdN
theorem rr10 (hk:Kn W0){a20 a30:Int}{c d:UInt8}(hc:65≤c.toNat∧c.toNat≤69)(hd:49≤d.toNat∧d.toNat≤56)(h1:oC W0 38 [N3 (U.wrap<|a30-1) a20]<|I true)(h2:oC W0 185 [jI a30]<|S [d])(h3:oC W0 184 [S [d]]<|aU [jI a30,.nilIf])(h4:oC W0 109 [S [d],S [36]]<|aU [S [d],zB])(h5:oC W0 180 [S [c]]<|aU [jI a20,zI])(h6:oC W0 109 [S [c,d],S [36]]<|aU [S [c,d],zB])(h7:oC W0 68 [S [83]]<|I true)(h8:oC W0 238 [S [83]]<|I true)(h9:oC W0 237 [S [83,33,c,d],J .u8 33]<|jI 1):cP W0 126 [S [83,33,c,d]] [] (aU [N3 (U.wrap<|a30-1) a20,zI]) []:=C9 hk Vq (ss0 0 [(false,2),(true,0),(true,1),(false,0),(false,1),(true,0),(true,4),(false,0)] 9 [] [(jI 1,none),(I true,none),(I true,none),(aU [S [c,d],zB],none),(aU [jI a20,zI],none),(aU [S [d],zB],none),(aU [jI a30,.nilIf],none),(S [d],none),(I true,none)] []) Ar<|gdC h1<|gdE (Ba .neq (S [d])<|S [d]) false<|gdC h2<|gdC h3<|gdE (Ba .leq (J .u8 d.toNat)<|J .u8 57) true<|gdE (Ba .geq (J .u8 d.toNat)<|J .u8 48) true<|gdC h4<|gdC h5<|gdE (Ba .geq (J .i32<|gE.wrap ((d.toNat:Nat):Int))<|J .i32 97) false<|gdE (Ba .geq (J .i32<|gE.wrap ((d.toNat:Nat):Int))<|J .i32 65) false<|gdE (Ba .leq (J .i32<|gE.wrap ((c.toNat:Nat):Int))<|J .i32 90) true<|gdE (Ba .geq (J .i32<|gE.wrap ((c.toNat:Nat):Int))<|J .i32 65) true<|gdC h6<|gdC h7<|gdC h8<|gdC h9<|gdE (Ba .eql (S [83,33,c,d])<|S [35,82,69,70,33]) false gdN
theorem rt11 (hk:Kn W0){a10 a20:Int}{c d:UInt8}(hc:65≤c.toNat∧c.toNat≤69)(hd:49≤d.toNat∧d.toNat≤56)(h1:oC W0 104 [jI<|U.wrap<|a10+1]<|S [d])(h2:oC W0 103 [jI a20]<|aU [S [c],zI])(h3:oC W0 101 [S [83]]<|I true)(h4:oC W0 100 [N4 a10 a20]<|I true):cP W0 67 [N4 a10 a20] [] (aU [S [83,33,c,36,d],zI]) []:=C9 hk Vt (ss0 1 [] 4 [] [(I true,none),(I true,none),(aU [S [c],zI],none),(S [d],none)] []) Ar<|gdC h1<|gdC h2<|gdC h3<|gdC h4 gdN
theorem rr11 (hk:Kn W0){a20 a30:Int}{c d:UInt8}(hc:65≤c.toNat∧c.toNat≤69)(hd:49≤d.toNat∧d.toNat≤56)(h1:oC W0 38 [N4 (U.wrap<|a30-1) a20]<|I true)(h2:oC W0 185 [jI a30]<|S [d])(h3:oC W0 184 [S [d]]<|aU [jI a30,.nilIf])(h4:oC W0 109 [S [36,d],S [36]]<|aU [S [d],I true])(h5:oC W0 180 [S [c]]<|aU [jI a20,zI])(h6:oC W0 109 [S [c,36,d],S [36]]<|aU [S [c,36,d],zB])(h7:oC W0 68 [S [83]]<|I true)(h8:oC W0 238 [S [83]]<|I true)(h9:oC W0 237 [S [83,33,c,36,d],J .u8 33]<|jI 1):cP W0 126 [S [83,33,c,36,d]] [] (aU [N4 (U.wrap<|a30-1) a20,zI]) []:=C9 hk Vq (ss0 0 [(false,2),(true,0),(true,4),(true,0),(true,4),(false,0)] 9 [] [(jI 1,none),(I true,none),(I true,none),(aU [S [c,36,d],zB],none),(aU [jI a20,zI],none),(aU [S [d],I true],none),(aU [jI a30,.nilIf],none),(S [d],none),(I true,none)] []) Ar<|gdC h1<|gdE (Ba .neq (S [d])<|S [d]) false<|gdC h2<|gdC h3<|gdE (Ba .leq (J .u8 d.toNat)<|J .u8 57) true<|gdE (Ba .geq (J .u8 d.toNat)<|J .u8 48) true<|gdC h4<|gdC h5<|gdE (Ba .leq (J .i32<|gE.wrap ((c.toNat:Nat):Int))<|J .i32 90) true<|gdE (Ba .geq (J .i32<|gE.wrap ((c.toNat:Nat):Int))<|J .i32 65) true<|gdC h6<|gdC h7<|gdC h8<|gdC h9<|gdE (Ba .eql (S [83,33,c,36,d])<|S [35,82,69,70,33]) false gdN
theorem rt12 (hk:Kn W0){a10 a20:Int}{c d:UInt8}(hc:65≤c.toNat∧c.toNat≤69)(hd:49≤d.toNat∧d.toNat≤56)(h1:oC W0 104 [jI<|U.wrap<|a10+1]<|S [d])(h2:oC W0 103 [jI a20]<|aU [S [c],zI])(h3:oC W0 101 [S [83]]<|I true)(h4:oC W0 100 [N5 a10 a20]<|I true):cP W0 67 [N5 a10 a20] [] (aU [S [83,33,36,c,d],zI]) []:=C9 hk Vt (ss0 1 [] 4 [] [(I true,none),(I true,none),(aU [S [c],zI],none),(S [d],none)] []) Ar<|gdC h1<|gdC h2<|gdC h3<|gdC h4 gdN
theorem rr12 (hk:Kn W0){a20 a30:Int}{c d:UInt8}(hc:65≤c.toNat∧c.toNat≤69)(hd:49≤d.toNat∧d.toNat≤56)(h1:oC W0 38 [N5 (U.wrap<|a30-1) a20]<|I true)(h2:oC W0 185 [jI a30]<|S [d])(h3:oC W0 184 [S [d]]<|aU [jI a30,.nilIf])(h4:oC W0 109 [S [d],S [36]]<|aU [S [d],zB])(h5:oC W0 180 [S [c]]<|aU [jI a20,zI])(h6:oC W0 109 [S [36,c,d],S [36]]<|aU [S [c,d],I true])(h7:oC W0 68 [S [83]]<|I true)(h8:oC W0 238 [S [83]]<|I true)(h9:oC W0 237 [S [83,33,36,c,d],J .u8 33]<|jI 1):cP W0 126 [S [83,33,36,c,d]] [] (aU [N5 (U.wrap<|a30-1) a20,zI]) []:=C9 hk Vq (ss0 0 [(false,2),(true,0),(true,1),(false,0),(false,1),(true,0),(true,4),(false,0)] 9 [] [(jI 1,none),(I true,none),(I true,none),(aU [S [c,d],I true],none),(aU [jI a20,zI],none),(aU [S [d],zB],none),(aU [jI a30,.nilIf],none),(S [d],none),(I true,none)] []) Ar<|gdC h1<|gdE (Ba .neq (S [d])<|S [d]) false<|gdC h2<|gdC h3<|gdE (Ba .leq (J .u8 d.toNat)<|J .u8 57) true<|gdE (Ba .geq (J .u8 d.toNat)<|J .u8 48) true<|gdC h4<|gdC h5<|gdE (Ba .geq (J .i32<|gE.wrap ((d.toNat:Nat):Int))<|J .i32 97) false<|gdE (Ba .geq (J .i32<|gE.wrap ((d.toNat:Nat):Int))<|J .i32 65) false<|gdE (Ba .leq (J .i32<|gE.wrap ((c.toNat:Nat):Int))<|J .i32 90) true<|gdE (Ba .geq (J .i32<|gE.wrap ((c.toNat:Nat):Int))<|J .i32 65) true<|gdC h6<|gdC h7<|gdC h8<|gdC h9<|gdE (Ba .eql (S [83,33,36,c,d])<|S [35,82,69,70,33]) false gdN
theorem rt20 (hk:Kn W0){a10 a20:Int}{c d:UInt8}(hc:65≤c.toNat∧c.toNat≤69)(hd:49≤d.toNat∧d.toNat≤56)(h1:oC W0 104 [jI<|U.wrap<|a10+1]<|S [d])(h2:oC W0 103 [jI a20]<|aU [S [c],zI])(h3:oC W0 102 [S [84,119,111,32,120]]<|S [39,84,119,111,32,120,39])(h4:oC W0 101 [S [84,119,111,32,120]] zB)(h5:oC W0 100 [N6 a10 a20]<|I true):cP W0 67 [N6 a10 a20] [] (aU [S [39,84,119,111,32,120,39,33,c,d],zI]) []:=C9 hk Vt (ss0 1 [] 3 [] [(I true,none),(zB,none),(S [39,84,119,111,32,120,39],none),(aU [S [c],zI],none),(S [d],none)] []) Ar<|gdC h1<|gdC h2<|gdC h3<|gdC h4<|gdC h5 gdN
theorem rr20 (hk:Kn W0){a20 a30:Int}{c d:UInt8}(hc:65≤c.toNat∧c.toNat≤69)(hd:49≤d.toNat∧d.toNat≤56)(h1:oC W0 38 [N6 (U.wrap<|a30-1) a20]<|I true)(h2:oC W0 185 [jI a30]<|S [d])(h3:oC W0 184 [S [d]]<|aU [jI a30,.nilIf])(h4:oC W0 109 [S [d],S [36]]<|aU [S [d],zB])(h5:oC W0 180 [S [c]]<|aU [jI a20,zI])(h6:oC W0 109 [S [c,d],S [36]]<|aU [S [c,d],zB])(h7:oC W0 68 [S [84,119,111,32,120]]<|I true)(h8:oC W0 238 [S [39,84,119,111,32,120,39]] zB)(h9:oC W0 237 [S [39,84,119,111,32,120,39,33,c,d],J .u8 33]<|jI 7):cP W0 126 [S [39,84,119,111,32,120,39,33,c,d]] [] (aU [N6 (U.wrap<|a30-1) a20,zI]) []:=C9 hk Vq (ss0 0 [(false,17),(true,0),(true,1),(false,0),(false,1),(true,0),(true,4),(false,0)] 12 [] [(jI 7,none),(zB,none),(I true,none),(aU [S [c,d],zB],none),(aU [jI a20,zI],none),(aU [S [d],zB],none),(aU [jI a30,.nilIf],none),(S [d],none),(I true,none)] []) Ar<|gdC h1<|gdE (Ba .neq (S [d])<|S [d]) false<|gdC h2<|gdC h3<|gdE (Ba .leq (J .u8 d.toNat)<|J .u8 57) true<|gdE (Ba .geq (J .u8 d.toNat)<|J .u8 48) true<|gdC h4<|gdC h5<|gdE (Ba .geq (J .i32<|gE.wrap ((d.toNat:Nat):Int))<|J .i32 97) false<|gdE (Ba .geq (J .i32<|gE.wrap ((d.toNat:Nat):Int))<|J .i32 65) false<|gdE (Ba .leq (J .i32<|gE.wrap ((c.toNat:Nat):Int))<|J .i32 90) true<|gdE (Ba .geq (J .i32<|gE.wrap ((c.toNat:Nat):Int))<|J .i32 65) true<|gdC h6<|gdC h7<|gdC h8<|gdC h9<|gdE (Ba .eql (S [39,84,119,111,32,120,39,33,c,d])<|S [35,82,69,70,33]) false gdN
theorem rt21 (hk:Kn W0){a10 a20:Int}{c d:UInt8}(hc:65≤c.toNat∧c.toNat≤69)(hd:49≤d.toNat∧d.toNat≤56)(h1:oC W0 104 [jI<|U.wrap<|a10+1]<|S [d])(h2:oC W0 103 [jI a20]<|aU [S [c],zI])(h3:oC W0 102 [S [84,119,111,32,120]]<|S [39,84,119,111,32,120,39])(h4:oC W0 101 [S [84,119,111,32,120]] zB)(h5:oC W0 100 [N7 a10 a20]<|I true):cP W0 67 [N7 a10 a20] [] (aU [S [39,84,119,111,32,120,39,33,c,36,d],zI]) []:=C9 hk Vt (ss0 1 [] 4 [] [(I true,none),(zB,none),(S [39,84,119,111,32,120,39],none),(aU [S [c],zI],none),(S [d],none)] []) Ar<|gdC h1<|gdC h2<|gdC h3<|gdC h4<|gdC h5 gdN
theorem rr21 (hk:Kn W0){a20 a30:Int}{c d:UInt8}(hc:65≤c.toNat∧c.toNat≤69)(hd:49≤d.toNat∧d.toNat≤56)(h1:oC W0 38 [N7 (U.wrap<|a30-1) a20]<|I true)(h2:oC W0 185 [jI a30]<|S [d])(h3:oC W0 184 [S [d]]<|aU [jI a30,.nilIf])(h4:oC W0 109 [S [36,d],S [36]]<|aU [S [d],I true])(h5:oC W0 180 [S [c]]<|aU [jI a20,zI])(h6:oC W0 109 [S [c,36,d],S [36]]<|aU [S [c,36,d],zB])(h7:oC W0 68 [S [84,119,111,32,120]]<|I true)(h8:oC W0 238 [S [39,84,119,111,32,120,39]] zB)(h9:oC W0 237 [S [39,84,119,111,32,120,39,33,c,36,d],J .u8 33]<|jI 7):cP W0 126 [S [39,84,119,111,32,120,39,33,c,36,d]] [] (aU [N7 (U.wrap<|a30-1) a20,zI]) []:=C9 hk Vq (ss0 0 [(false,17),(true,0),(true,4),(true,0),(true,4),(false,0)] 12 [] [(jI 7,none),(zB,none),(I true,none),(aU [S [c,36,d],zB],none),(aU [jI a20,zI],none),(aU [S [d],I true],none),(aU [jI a30,.nilIf],none),(S [d],none),(I true,none)] []) Ar<|gdC h1<|gdE (Ba .neq (S [d])<|S [d]) false<|gdC h2<|gdC h3<|gdE (Ba .leq (J .u8 d.toNat)<|J .u8 57) true<|gdE (Ba .geq (J .u8 d.toNat)<|J .u8 48) true<|gdC h4<|gdC h5<|gdE (Ba .leq (J .i32<|gE.wrap ((c.toNat:Nat):Int))<|J .i32 90) true<|gdE (Ba .geq (J .i32<|gE.wrap ((c.toNat:Nat):Int))<|J .i32 65) true<|gdC h6<|gdC h7<|gdC h8<|gdC h9<|gdE (Ba .eql (S [39,84,119,111,32,120,39,33,c,36,d])<|S [35,82,69,70,33]) false gdN
theorem rt22 (hk:Kn W0){a10 a20:Int}{c d:UInt8}(hc:65≤c.toNat∧c.toNat≤69)(hd:49≤d.toNat∧d.toNat≤56)(h1:oC W0 104 [jI<|U.wrap<|a10+1]<|S [d])(h2:oC W0 103 [jI a20]<|aU [S [c],zI])(h3:oC W0 102 [S [84,119,111,32,120]]<|S [39,84,119,111,32,120,39])(h4:oC W0 101 [S [84,119,111,32,120]] zB)(h5:oC W0 100 [N8 a10 a20]<|I true):cP W0 67 [N8 a10 a20] [] (aU [S [39,84,119,111,32,120,39,33,36,c,d],zI]) []:=C9 hk Vt (ss0 1 [] 4 [] [(I true,none),(zB,none),(S [39,84,119,111,32,120,39],none),(aU [S [c],zI],none),(S [d],none)] []) Ar<|gdC h1<|gdC h2<|gdC h3<|gdC h4<|gdC h5 gdN
theorem rr22 (hk:Kn W0){a20 a30:Int}{c d:UInt8}(hc:65≤c.toNat∧c.toNat≤69)(hd:49≤d.toNat∧d.toNat≤56)(h1:oC W0 38 [N8 (U.wrap<|a30-1) a20]<|I true)(h2:oC W0 185 [jI a30]<|S [d])(h3:oC W0 184 [S [d]]<|aU [jI a30,.nilIf])(h4:oC W0 109 [S [d],S [36]]<|aU [S [d],zB])(h5:oC W0 180 [S [c]]<|aU [jI a20,zI])(h6:oC W0 109 [S [36,c,d],S [36]]<|aU [S [c,d],I true])(h7:oC W0 68 [S [84,119,111,32,120]]<|I true)(h8:oC W0 238 [S [39,84,119,111,32,120,39]] zB)(h9:oC W0 237 [S [39,84,119,111,32,120,39,33,36,c,d],J .u8 33]<|jI 7):cP W0 126 [S [39,84,119,111,32,120,39,33,36,c,d]] [] (aU [N8 (U.wrap<|a30-1) a20,zI]) []:=C9 hk Vq (ss0 0 [(false,17),(true,0),(true,1),(false,0),(false,1),(true,0),(true,4),(false,0)] 12 [] [(jI 7,none),(zB,none),(I true,none),(aU [S [c,d],I true],none),(aU [jI a20,zI],none),(aU [S [d],zB],none),(aU [jI a30,.nilIf],none),(S [d],none),(I true,none)] []) Ar<|gdC h1<|gdE (Ba .neq (S [d])<|S [d]) false<|gdC h2<|gdC h3<|gdE (Ba .leq (J .u8 d.toNat)<|J .u8 57) true<|gdE (Ba .geq (J .u8 d.toNat)<|J .u8 48) true<|gdC h4<|gdC h5<|gdE (Ba .geq (J .i32<|gE.wrap ((d.toNat:Nat):Int))<|J .i32 97) false<|gdE (Ba .geq (J .i32<|gE.wrap ((d.toNat:Nat):Int))<|J .i32 65) false<|gdE (Ba .leq (J .i32<|gE.wrap ((c.toNat:Nat):Int))<|J .i32 90) true<|gdE (Ba .geq (J .i32<|gE.wrap ((c.toNat:Nat):Int))<|J .i32 65) true<|gdC h6<|gdC h7<|gdC h8<|gdC h9<|gdE (Ba .eql (S [39,84,119,111,32,120,39,33,36,c,d])<|S [35,82,69,70,33]) false gdN
theorem rt30 (hk:Kn W0){a10 a20:Int}{c d:UInt8}(hc:65≤c.toNat∧c.toNat≤69)(hd:49≤d.toNat∧d.toNat≤56)(h1:oC W0 104 [jI<|U.wrap<|a10+1]<|S [d])(h2:oC W0 103 [jI a20]<|aU [S [c],zI])(h3:oC W0 101 [S [116,104,105,114,100]]<|I true)(h4:oC W0 100 [N9 a10 a20]<|I true):cP W0 67 [N9 a10 a20] [] (aU [S [116,104,105,114,100,33,c,d],zI]) []:=C9 hk Vt (ss0 1 [] 3 [] [(I true,none),(I true,none),(aU [S [c],zI],none),(S [d],none)] []) Ar<|gdC h1<|gdC h2<|gdC h3<|gdC h4 gdN
theorem rr30 (hk:Kn W0){a20 a30:Int}{c d:UInt8}(hc:65≤c.toNat∧c.toNat≤69)(hd:49≤d.toNat∧d.toNat≤56)(h1:oC W0 38 [N9 (U.wrap<|a30-1) a20]<|I true)(h2:oC W0 185 [jI a30]<|S [d])(h3:oC W0 184 [S [d]]<|aU [jI a30,.nilIf])(h4:oC W0 109 [S [d],S [36]]<|aU [S [d],zB])(h5:oC W0 180 [S [c]]<|aU [jI a20,zI])(h6:oC W0 109 [S [c,d],S [36]]<|aU [S [c,d],zB])(h7:oC W0 68 [S [116,104,105,114,100]]<|I true)(h8:oC W0 238 [S [116,104,105,114,100]]<|I true)(h9:oC W0 237 [S [116,104,105,114,100,33,c,d],J .u8 33]<|jI 5):cP W0 126 [S [116,104,105,114,100,33,c,d]] [] (aU [N9 (U.wrap<|a30-1) a20,zI]) []:=C9 hk Vq (ss0 0 [(false,2),(true,0),(true,1),(false,0),(false,1),(true,0),(true,4),(false,0)] 9 [] [(jI 5,none),(I true,none),(I true,none),(aU [S [c,d],zB],none),(aU [jI a20,zI],none),(aU [S [d],zB],none),(aU [jI a30,.nilIf],none),(S [d],none),(I true,none)] []) Ar<|gdC h1<|gdE (Ba .neq (S [d])<|S [d]) false<|gdC h2<|gdC h3<|gdE (Ba .leq (J .u8 d.toNat)<|J .u8 57) true<|gdE (Ba .geq (J .u8 d.toNat)<|J .u8 48) true<|gdC h4<|gdC h5<|gdE (Ba .geq (J .i32<|gE.wrap ((d.toNat:Nat):Int))<|J .i32 97) false<|gdE (Ba .geq (J .i32<|gE.wrap ((d.toNat:Nat):Int))<|J .i32 65) false<|gdE (Ba .leq (J .i32<|gE.wrap ((c.toNat:Nat):Int))<|J .i32 90) true<|gdE (Ba .geq (J .i32<|gE.wrap ((c.toNat:Nat):Int))<|J .i32 65) true<|gdC h6<|gdC h7<|gdC h8<|gdC h9<|gdE (Ba .eql (S [116,104,105,114,100,33,c,d])<|S [35,82,69,70,33]) false gdN
theorem rt31 (hk:Kn W0){a10 a20:Int}{c d:UInt8}(hc:65≤c.toNat∧c.toNat≤69)(hd:49≤d.toNat∧d.toNat≤56)(h1:oC W0 104 [jI<|U.wrap<|a10+1]<|S [d])(h2:oC W0 103 [jI a20]<|aU [S [c],zI])(h3:oC W0 101 [S [116,104,105,114,100]]<|I true)(h4:oC W0 100 [N10 a10 a20]<|I true):cP W0 67 [N10 a10 a20] [] (aU [S [116,104,105,114,100,33,c,36,d],zI]) []:=C9 hk Vt (ss0 1 [] 4 [] [(I true,none),(I true,none),(aU [S [c],zI],none),(S [d],none)] []) Ar<|gdC h1<|gdC h2<|gdC h3<|gdC h4 gdN
theorem rr31 (hk:Kn W0){a20 a30:Int}{c d:UInt8}(hc:65≤c.toNat∧c.toNat≤69)(hd:49≤d.toNat∧d.toNat≤56)(h1:oC W0 38 [N10 (U.wrap<|a30-1) a20]<|I true)(h2:oC W0 185 [jI a30]<|S [d])(h3:oC W0 184 [S [d]]<|aU [jI a30,.nilIf])(h4:oC W0 109 [S [36,d],S [36]]<|aU [S [d],I true])(h5:oC W0 180 [S [c]]<|aU [jI a20,zI])(h6:oC W0 109 [S [c,36,d],S [36]]<|aU [S [c,36,d],zB])(h7:oC W0 68 [S [116,104,105,114,100]]<|I true)(h8:oC W0 238 [S [116,104,105,114,100]]<|I true)(h9:oC W0 237 [S [116,104,105,114,100,33,c,36,d],J .u8 33]<|jI 5):cP W0 126 [S [116,104,105,114,100,33,c,36,d]] [] (aU [N10 (U.wrap<|a30-1) a20,zI]) []:=C9 hk Vq (ss0 0 [(false,2),(true,0),(true,4),(true,0),(true,4),(false,0)] 9 [] [(jI 5,none),(I true,none),(I true,none),(aU [S [c,36,d],zB],none),(aU [jI a20,zI],none),(aU [S [d],I true],none),(aU [jI a30,.nilIf],none),(S [d],none),(I true,none)] []) Ar<|gdC h1<|gdE (Ba .neq (S [d])<|S [d]) false<|gdC h2<|gdC h3<|gdE (Ba .leq (J .u8 d.toNat)<|J .u8 57) true<|gdE (Ba .geq (J .u8 d.toNat)<|J .u8 48) true<|gdC h4<|gdC h5<|gdE (Ba .leq (J .i32<|gE.wrap ((c.toNat:Nat):Int))<|J .i32 90) true<|gdE (Ba .geq (J .i32<|gE.wrap ((c.toNat:Nat):Int))<|J .i32 65) true<|gdC h6<|gdC h7<|gdC h8<|gdC h9<|gdE (Ba .eql (S [116,104,105,114,100,33,c,36,d])<|S [35,82,69,70,33]) false gdN
theorem rt32 (hk:Kn W0){a10 a20:Int}{c d:UInt8}(hc:65≤c.toNat∧c.toNat≤69)(hd:49≤d.toNat∧d.toNat≤56)(h1:oC W0 104 [jI<|U.wrap<|a10+1]<|S [d])(h2:oC W0 103 [jI a20]<|aU [S [c],zI])(h3:oC W0 101 [S [116,104,105,114,100]]<|I true)(h4:oC W0 100 [N11 a10 a20]<|I true):cP W0 67 [N11 a10 a20] [] (aU [S [116,104,105,114,100,33,36,c,d],zI]) []:=C9 hk Vt (ss0 1 [] 4 [] [(I true,none),(I true,none),(aU [S [c],zI],none),(S [d],none)] []) Ar<|gdC h1<|gdC h2<|gdC h3<|gdC h4 gdN
theorem rr32 (hk:Kn W0){a20 a30:Int}{c d:UInt8}(hc:65≤c.toNat∧c.toNat≤69)(hd:49≤d.toNat∧d.toNat≤56)(h1:oC W0 38 [N11 (U.wrap<|a30-1) a20]<|I true)(h2:oC W0 185 [jI a30]<|S [d])(h3:oC W0 184 [S [d]]<|aU [jI a30,.nilIf])(h4:oC W0 109 [S [d],S [36]]<|aU [S [d],zB])(h5:oC W0 180 [S [c]]<|aU [jI a20,zI])(h6:oC W0 109 [S [36,c,d],S [36]]<|aU [S [c,d],I true])(h7:oC W0 68 [S [116,104,105,114,100]]<|I true)(h8:oC W0 238 [S [116,104,105,114,100]]<|I true)(h9:oC W0 237 [S [116,104,105,114,100,33,36,c,d],J .u8 33]<|jI 5):cP W0 126 [S [116,104,105,114,100,33,36,c,d]] [] (aU [N11 (U.wrap<|a30-1) a20,zI]) []:=C9 hk Vq (ss0 0 [(false,2),(true,0),(true,1),(false,0),(false,1),(true,0),(true,4),(false,0)] 9 [] [(jI 5,none),(I true,none),(I true,none),(aU [S [c,d],I true],none),(aU [jI a20,zI],none),(aU [S [d],zB],none),(aU [jI a30,.nilIf],none),(S [d],none),(I true,none)] []) Ar<|gdC h1<|gdE (Ba .neq (S [d])<|S [d]) false<|gdC h2<|gdC h3<|gdE (Ba .leq (J .u8 d.toNat)<|J .u8 57) true<|gdE (Ba .geq (J .u8 d.toNat)<|J .u8 48) true<|gdC h4<|gdC h5<|gdE (Ba .geq (J .i32<|gE.wrap ((d.toNat:Nat):Int))<|J .i32 97) false<|gdE (Ba .geq (J .i32<|gE.wrap ((d.toNat:Nat):Int))<|J .i32 65) false<|gdE (Ba .leq (J .i32<|gE.wrap ((c.toNat:Nat):Int))<|J .i32 90) true<|gdE (Ba .geq (J .i32<|gE.wrap ((c.toNat:Nat):Int))<|J .i32 65) true<|gdC h6<|gdC h7<|gdC h8<|gdC h9<|gdE (Ba .eql (S [116,104,105,114,100,33,36,c,d])<|S [35,82,69,70,33]) false gdN
end Go.Abs
namespace Go.Abs
open Go.RowKit Go.Proofs Go.Sort
def Ce (ss:List Bz):List AVal:=ss.map AVal.str
section
variable {F : Nat → Prop} {bs : List Nat} {H : Hz} {w W0 : World}
theorem Y4 {ss:List Bz}{vs:List Value}(h:Ab F bs H w (Ce ss) vs):vs=ss.map encStr:=by induction ss generalizing vs<;>grind[Ce,Ab,Rep]
theorem SL {ss:List Bz}:Ab F bs H w (Ce ss) (ss.map encStr):=by induction ss<;>grind[Ce,Ab,Rep]
theorem CR {ss ts:List Bz}(rest:List Value)(hl:N ts=N ss):putCells encStr 0 ts.toArray (ss.map encStr++rest).toArray=(ts.map encStr++rest).toArray:=by apply Array.ext';apply List.ext_getElem?;intro j;rw[Array.getElem?_toList];simp only[putCells,Array.getElem?_mapIdx,bW,hZ,true_and,bS,Nat.sub_zero,List.size_toArray];grind
theorem KO (hh:Ae W0 F bs H w){id b:Nat}{T:TypeId}{ss ts:List Bz}(ho:H[id]?=some (.cells T (Ce ss) false))(hb:bs[id]?=some b)(hl:N ts=N ss)(n:Nat)(os:Array Obj):
 Ae W0 F bs (H.set id<|.cells T (Ce ts) false) (grow (putRow encStr (gR w n) b 0 ts.toArray) os)∧Ext bs H w bs (H.set id<|.cells T (Ce ts) false) (grow (putRow encStr (gR w n) b 0 ts.toArray) os):=by
 obtain⟨vs,rest,fr,h1,h2,h3⟩:=hh.obj id _ b ho hb;obtain rfl:=Y4 h2;have hlow:=hh.low b<|mGe hb;have hsz:(putRow encStr (gR w n) b 0 ts.toArray).heap.size=w.heap.size:=by simp_all
 have hg0:=heap_sorted (n:=n) (os:=#[]) ts.toArray h1;rw[grow_empty,CR rest hl]at hg0;have hgr:=grownBy_sorted (w:=w) (g:=b) (n:=n) (os:=#[]) ts.toArray;rw[grow_empty]at hgr;obtain⟨g1,g2,g3,_,g5⟩:=hgr;have hother:∀k,k≠b→(putRow encStr (gR w n) b 0 ts.toArray).heap[k]?=w.heap[k]?:=λk hk=>by grind
 have hoe:Bi bs bs w (putRow encStr (gR w n) b 0 ts.toArray) id (.cells T (Ce ss) false) (.cells T (Ce ts) false):=.inr ⟨T,_,Z,by simp[Ce,hl],rfl⟩;have hext:=Ext.upd (w':=putRow encStr (gR w n) b 0 ts.toArray) hh.nodup ho hb hsz hother hoe;have hbelow:Below W0.heap.size w (putRow encStr (gR w n) b 0 ts.toArray):=⟨g1,g2,g3,Y,λk hk=>hother k Y⟩;have hup:=Ae.upd hh ho hb hbelow hsz hother hoe ⟨ts.map encStr,rest,fr,hg0,SL,λj hj=>h3 j (by grind)⟩;obtain⟨k1,k2⟩:=hup.below<|II (gO _ _) os;exact⟨k1,hext.trans k2⟩
theorem AH {b:Nat}{T:TypeId}{ss:List Bz}{rest:List Value}{fr:Nat×Nat}(h1:w.heap[b]?=some (.cells (ss.map encStr++rest).toArray T fr))(h3:∀j,j<N (ss.map encStr)→¬(fr.1≤j∧j<fr.2)):Holds encStr w b 0 ss.toArray:=by
 intro j hj;have hj:j<N ss:=Y;constructor;·rw[cell_of_row w b _ _ T fr h1];grind
 simp_all[World.frozen?]
end
section
variable {P : Program} {W0 : World} {H : Hz}
theorem sortP {f:Nat}(hf:E1 P f)
 (hc:∀(blk off cap:Nat) (ss:List Bz) (w:World),Holds encStr w blk off ss.toArray→blk<w.heap.size→N ss<4611686018427387904→
  Calls P f #[.slice (some ⟨blk,off,none⟩) (N ss) cap] w λe w'=>e= .returned (.tuple #[])∧∃n os,w'=grow (putRow encStr (gR w n) blk off (ss.mergeSort λx y=>decide (x≤y)).toArray) os)
 {id n:Nat}{T:TypeId}{cp:Option Nat}{ss:List Bz} (ho:H[id]?=some (.cells T (Ce ss) false)) (hn:n=N ss) (hs:N ss<1000000):
 A5 P W0 f [.hsl 1 id 0 n cp] H (.tup []) (H.set id<|.cells T (Ce<|ss.mergeSort λx y=>decide<|x≤y) false):=by
 subst hn;refine⟨hf,λF bs w cargs hh hr=>?_⟩;simp only[Ab,Rep]at hr;obtain⟨_,_,rfl,⟨_,hp⟩,rfl⟩:=hr;unfold D1 at hp;rw[ho]at hp;obtain⟨_,hp⟩:=hp;obtain⟨b,c,hb,rfl,_⟩:=hp B4;obtain⟨vs,rest,fr,h1,h2,h3⟩:=hh.obj id _ b ho hb;obtain rfl:=Y4 h2;have hlow:=hh.low b<|mGe hb;refine eU (hc b 0 c ss w (AH h1 h3) hlow.2 Y) ?_;rintro e w' ⟨rfl,n,os,rfl⟩;obtain⟨k1,k2⟩:=KO hh ho hb (ts:=ss.mergeSort λx y=>decide<|x≤y) (by simp_all) n os;grind[Rep,Ab]
theorem PN {f:Nat}(hf:E1 P f)
 (hc:∀(blk off cap:Nat) (d:Array Bz) (w:World),Holds encStr w blk off d→d.size≤9223372036854775807→d.size≤cap→
  Calls P f #[.slice (some ⟨blk,off,none⟩) d.size cap] w λe w'=>e= .returned (.slice (some ⟨blk,off,none⟩) (N (gI d d.size)) cap)∧∃q,w'=putRow encStr (gR w q) blk off (gI d d.size++fH (d.size-N (gI d d.size)) []).toArray)
 {id n:Nat}{T:TypeId}{cp:Option Nat}{ss:List Bz} (ho:H[id]?=some (.cells T (Ce ss) false)) (hn:n=N ss) (hs:N ss<1000000) (hle:N (gI ss.toArray<|N ss)≤N ss):
 A5 P W0 f [.hsl 1 id 0 n cp] H (.hsl 1 id 0 (N<|gI ss.toArray<|N ss) none) (H.set id<|.cells T (Ce<|gI ss.toArray (N ss)++fH (N ss-N (gI ss.toArray<|N ss)) []) false):=by
 subst hn;refine⟨hf,λF bs w cargs hh hr=>?_⟩;simp only[Ab,Rep]at hr;obtain⟨_,_,rfl,⟨_,hp⟩,rfl⟩:=hr;unfold D1 at hp;rw[ho]at hp;obtain⟨_,hp⟩:=hp;obtain⟨b,c,hb,rfl,hlc,_⟩:=hp B4;obtain⟨vs,rest,fr,h1,h2,h3⟩:=hh.obj id _ b ho hb;obtain rfl:=Y4 h2;have hsz:ss.toArray.size=N ss:=B4;have hlen:N (gI ss.toArray (N ss)++fH (N ss-N (gI ss.toArray<|N ss)) [])=N ss:=by simp;omega
 refine eU (hc b 0 c ss.toArray w (AH h1 h3) Y Y) ?_;rintro e w' ⟨rfl,n,rfl⟩;simp only[hsz]at*;obtain⟨k1,k2⟩:=KO hh ho hb (ts:=gI ss.toArray (N ss)++fH (N ss-N (gI ss.toArray<|N ss)) []) hlen n #[];grind[grow_empty,Rep,D1,Ce]
end
end Go.Abs
namespace Go.Abs
open Go.RowKit Go.Proofs
set_option maxRecDepth 10000000
variable {W0 : World} {F : Nat → Prop} {bs : List Nat} {H : Hz} {w : World} {G : List (Nat × AVal)}
theorem FJ {s t:Bz}:cP W0 118 [S s,S t] H (S<|iC s t) H:=by refine gM Ar λF bs w cargs hh hra=>?_;obtain⟨a,b,rfl,h1,h2⟩:=Pi hra;obtain rfl:=Kz h1;obtain rfl:=Kz h2;refine(Tryz.strings_TrimPrefix ⟨s.toArray⟩ ⟨t.toArray⟩ w).mono ?_;simp_all[Qq,gO]
theorem lSort {id n:Nat}{T:TypeId}{cp:Option Nat}{ss:List Bz}(ho:H[id]?=some (C T (Ce ss) false))(hn:n=N ss)(hs:N ss<1000000):
 cP W0 85 [aH 1 id 0 n cp] H (aU []) (H.set id<|C T (Ce<|ss.mergeSort λx y=>decide<|x≤y) false):=
 sortP (F2 Ar) (λblk off cap ss w hH hb hz=>Tryz.slices_Sort_string blk off cap ss w hH hb hz) ho hn hs
theorem FV {id n:Nat}{T:TypeId}{cp:Option Nat}{ss:List Bz}(ho:H[id]?=some (C T (Ce ss) false))(hn:n=N ss)(hs:N ss<1000000)(hle:N (gI ss.toArray<|N ss)≤N ss):
 cP W0 86 [aH 1 id 0 n cp] H (aH 1 id 0 (N<|gI ss.toArray<|N ss) none) (H.set id<|C T (Ce<|gI ss.toArray (N ss)++fH (N ss-N (gI ss.toArray<|N ss)) []) false):=
 PN (F2 Ar) (λblk off cap d w h1 h2 h3=>Tryz.slices_Compact_string_arr blk off cap d w h1 h2 h3) ho hn hs hle
theorem grK (hk:Kn W0):hGr W0 GL:=⟨hk.g,Ar⟩
theorem H6 (hk:Kn W0){d f:Nat}{args:List AVal}{v:AVal}(h:run d f args []=some (v,[]))(h1:A8 0 args=true)(h2:blw 0 v=true)(H:Hz):cP W0 f args H v H:=hO h1 h2 (run_ok hk.g hk.w d _ _ _ _ _ h) H
def Bt (c:Int)(n:Nat):Nat:=(if c<0 then-(c+1)else c).toNat%n
theorem tmodN {a:Int}{n:Nat}(h:0≤a):a.tmod (n:Nat)=((a.toNat%n:Nat):Int):=by grind
theorem pkA {c:Int}{n:Nat}(h:c<0):(-(c+1)).tmod (n:Nat)=((Bt c n:Nat):Int):=by rw[tmodN Y,Bt,if_pos h]
theorem pkB {c:Int}{n:Nat}(h:¬c<0):c.tmod (n:Nat)=((Bt c n:Nat):Int):=by rw[tmodN Y,Bt,if_neg h]
theorem C6 {c:Int}{n:Nat}(h:0<n):Bt c n<n:=Nat.mod_lt _ h
theorem Rm (hg:hGr W0 G){c:Int}{n:Nat}(h1':-9223372036854775808≤c)(h2':c≤9223372036854775807)(hn:0<n):cP W0 96 [J U c,J U (n:Nat)] [] (J U (Bt c n:Nat)) []:=by
 have hnn:(1:Int)≤(n:Nat)*(n:Nat):=by have:1*1≤n*n:=Nat.mul_le_mul hn hn;omega
 refine goA 96 13 ?_;refine sA<|lV Z<|ln<|sa<|sA<|lV Z ?_;refine lB Z Z O (λh1=>?_)<|λh1=>?_
 ·have hc:c<0:=by grind
  refine ln<|aT Z<|oA<|lV Z<|lKv (v:=J U<|c+1) Z Z (by simp_all[Ah]) (congrArg (J U)<|w64 Y Y)<|lKv (v:=J U<|-(c+1)) Z Z O (congrArg (J U) (by grind[w64]))<|lV Z<|ln<|sA<|lV Z<|lV Z<|lKv (v:=J U (Bt c n:Nat)) Z Z (by simp_all[Ah]) (congrArg (J U) (by grind[pkA]))<|lV Z<|ln ?_;exact gG<|A6 O Z Z Z
 ·have hc:¬c<0:=by grind
  refine ln<|aF Z<|kA<|sA<|lV Z<|lV Z<|lKv (v:=J U (Bt c n:Nat)) Z Z (by simp_all[Ah]) (congrArg (J U) (by grind[pkB]))<|lV Z<|ln ?_;exact gG<|A6 O Z Z Z
theorem pickC53 (hg:hGr W0 G){c:Int}{n:Nat}(h1:-9223372036854775808≤c)(h2:c≤9223372036854775807)(hn:0<n)(H:Hz):cP W0 96 [J U c,J U (n:Nat)] H (J U (Bt c n:Nat)) H:=hO Z Z (Rm hg h1 h2 hn) H
end Go.Abs
namespace Go.Abs
open Go.Proofs Go.RowKit
set_option maxRecDepth 100000
variable {W0 : World} {G : List (Nat × AVal)}
theorem asc_get {s:Bz}(h:asc s=true){pos:Nat}{b:UInt8}{r:Bz}(hd:s.drop pos=b::r):b.toNat<128:=by have:b∈s:=iG (i:=pos) (by grind);have:=eB.1 h b this;simp_all
theorem MR {s:Bz}{pos:Nat}(h:pos<N s):∃b r,s.drop pos=b::r∧s.drop (pos+1)=r∧s.take (pos+1)=s.take pos++[b]:=by grind[List.drop_eq_getElem_cons]
theorem c304p (hg:hGr W0 G){s:Bz}(ha:asc s=true){f:Nat}{p:UInt8→Bool}(hp:∀b:Nat,b<128→cP W0 f [J .i32 b] [] (I<|p b.toUInt8) []):cP W0 289 [S s,.fn f [] []] [] (S<|s.takeWhile p) []:=by
 refine goA 289 21 ?_;refine gP<|gU hg<|Aa Z Z O<|D7<|gP<|gP<|gU hg<|Aa Z Z O<|Aa (v:=aP 0 0) Z Z O<|D7<|ExA.block<|ExA.loop (σ:=Nat) (λpos=>⟨.al [(0,S s),(1,.fn f [] []),(8,aP 0 0)],[.iter s pos],21⟩) (λpos=>pos≤N s∧s.takeWhile p=s.take pos++(s.drop pos).takeWhile p) (λpos=>N s-pos) 0 ?h0 ⟨hZ _,B4⟩ ?_;case h0=>exact Wl rfl rfl (agC rfl<|agC rfl<|agC rfl agN) rfl
 rintro pos ⟨hI1,hI2⟩ hlen;refine sA ?_;by_cases hlt:pos<N s
 ·obtain⟨b,r,hd,hd1,ht⟩:=MR hlt;have hb:=asc_get ha hd;have hdec:=TH hd hb;have hc:=hp b.toNat hb;refine OW Z Z (Uk hlt) Z<|Aa Z Z O<|D7<|gP<|hU hg Z<|ExA.skip<|ExA.block<|gP<|gU hg<|Aa Z Z O<|Aa Z Z O<|Aa Z Z O<|Aa Z Z O<|D7<|gP<|gU hg<|Aa Z Z O<|Aa Z Z O ?_;refine lCB Z Z (by show A5 _ _ f [J .i32 ((L2 s pos).1:Nat)] _ (I _) _;rw[hdec];exact hO Z Z hc _) (λh1=>?_) (λh1=>?_)
  ·refine lV Z<|ln<|aF Z<|kA ?_;refine⟨pos+1,⟨hlt,?_⟩,Y,?w⟩;case w=>exact(Wl (H:=[HObj.iter s<|pos+1]) (n:=21) Jm (by grind) (by exact agC rfl<|agC rfl<|agC rfl agN) Jm)
   simp_all
  ·refine lV Z<|ln<|aT Z<|sA<|lV Z<|lV Z<|Aa Z Z (by simp_all[Bl,Ah])<|lV Z<|ln<|gG ?_;refine A4 O Z Z 100 ?_ Z;show some (S<|s.take pos)=_;simp_all
 ·have hpe:pos=N s:=by omega
  refine lNextNo Z Z (BK hlt) Z<|Aa Z Z O<|D7<|gP<|ExA.condF hg Z<|ExA.exit<|gP<|gU hg<|Aa Z Z O<|Aa Z Z O<|D7<|gG ?_;refine A4 O Z Z 100 ?_ Z;show some (S s)=_;simp_all
theorem c304 (hg:hGr W0 G){s:Bz}(ha:asc s=true){f:Nat}{p:UInt8→Bool}(hp:∀b:Nat,b<128→cP W0 f [J .i32 b] [] (I<|p b.toUInt8) [])(H:Hz):cP W0 289 [S s,.fn f [] []] H (S<|s.takeWhile p) H:=hO rfl rfl (c304p hg ha hp) H
def G9 (b:UInt8):Bool:=Ip (b.toNat:Nat)
def Jv (b:UInt8):Bool:=Gt (b.toNat:Nat)
def Qi (b:UInt8):Bool:=Wn (b.toNat:Nat)
theorem UJ {b:Nat}(h:b<128):(b.toUInt8.toNat:Nat)=b:=Jo
theorem Zt (hg:hGr W0 G){s:Bz}(ha:asc s=true)(H:Hz):cP W0 289 [S s,.fn 264 [] []] H (S<|s.takeWhile G9) H:=c304 hg ha (λb hb=>by have:=c211 hg (b:Nat) [];grind[G9,UJ]) H
theorem cDigit (hg:hGr W0 G){s:Bz}(ha:asc s=true)(H:Hz):cP W0 289 [S s,.fn 259 [] []] H (S<|s.takeWhile Jv) H:=c304 hg ha (λb hb=>by have:=TC hg (b:Nat) [];grind[Jv,UJ]) H
theorem cCell (hg:hGr W0 G){s:Bz}(ha:asc s=true)(H:Hz):cP W0 289 [S s,.fn 324 [] []] H (S<|s.takeWhile Qi) H:=c304 hg ha (λb hb=>by have:=c363 hg (b:Nat) [];grind[Qi,UJ]) H
theorem cMapUp (hw:Lw W0){s:Bz}(ha:asc s=true)(hl:N s≤1000000)(H:Hz):cP W0 107 [.fn 323 [] [],S s] H (S<|BE upF s) H:=by
 refine LA hw ?_;have hb:∀b∈s,b.toNat<128:=λb hb=>by simpa[gZ]using eB.1 ha b hb
 have:LH upF s=true:=eB.2 λb hbm=>by have:=hb b hbm;simp only[bAt,dTe,gZ];grind[upF]
 show(cond (LH upF s&&bK (N s) 1000000) _ _)=_;grind[Nat.ble_eq_true_of_le]
theorem c307 (hg:hGr W0 G)(hw:Lw W0){s:Bz}(ha:asc s=true)(hl:N s≤1000000)(H:Hz):cP W0 292 [S s] H (S<|BE upF s) H:=by refine goA 292 5 ?_;refine sA<|lV Z<|ln<|sA<|lV Z<|lC Z (cMapUp hw ha hl H)<|lV Z<|ln ?_;exact gG<|A6 O Z Z Z
def Qs (s:Bz):Bool:=(BE upF s==[84,82,85,69])||(BE upF s==[70,65,76,83,69])
theorem c315 (hg:hGr W0 G)(hw:Lw W0){s:Bz}(ha:asc s=true)(hl:N s≤1000000)(H:Hz):cP W0 301 [S s] H (I<|Qs s) H:=by
 refine goA 301 12 ?_;refine sA<|lV Z<|ln<|sA<|lV Z<|lC Z (c307 hg hw ha hl H)<|lV Z<|ln<|sA<|lV Z ?_;refine lB Z Z O (λh1=>?_)<|λh1=>?_;·refine lV Z<|lGN Z Z<|lGN Z Z<|lV Z<|lV Z<|ln ?_;exact gG<|A6 O Z (by simp_all[Cb,Qs]) Z
 ·refine lV Z<|lGY Z<|Aa Z Z O<|lGY Z<|?_;refine lB Z Z O (λh2=>?_)<|λh2=>?_;·refine lV Z<|lV Z<|ln ?_;exact gG (A6 O Z (by simp_all[Cb,Qs]) Z)
  ·refine lV Z<|lV Z<|ln ?_;exact gG<|A6 O Z (by simp_all[Cb,Qs]) Z
def refV (sh:Bz)(row col:Int)(fr fc bad:Bool):AVal:=aG [S sh,J U row,J U col,I fr,I fc,I bad]
def RdOK (W0:World)(s sh:Bz)(row col:Int)(fr fc bad:Bool)(e:Int):Prop:=cP W0 126 [S s] [] (aU [refV sh row col fr fc bad,J U e]) []
def I0 (W0:World)(s:Bz)(b:Bool):Prop:=∃sh row col fr fc bad e,RdOK W0 s sh row col fr fc bad e∧b=decide (e=0)
theorem c314p (hg:hGr W0 G){s sh:Bz}{row col e:Int}{fr fc bad:Bool}(hrd:RdOK W0 s sh row col fr fc bad e):cP W0 300 [S s] [] (I<|decide<|e=0) []:=by
 refine goA 300 12 ?_;refine sA<|lV Z<|ln<|sA<|lV Z<|lC Z hrd<|lV Z<|lV Z<|lV Z<|lV (v:=aP 0 0) Z<|Fb Z<|lV Z<|ln<|sA<|lV Z ?_;refine lB Z Z O (λh1=>?_)<|λh1=>?_;·refine lV Z<|ln ?_;exact gG<|A4 O Z Z 100 (by simp_all[frz,Cb]) Z
 ·refine lV Z<|ln ?_;exact gG<|A4 O Z Z 100 (by simp_all[frz,Cb]) Z
theorem c314 (hg:hGr W0 G){s:Bz}{b:Bool}(h:I0 W0 s b)(H:Hz):cP W0 300 [S s] H (I b) H:=by obtain⟨sh,row,col,fr,fc,bad,e,h,rfl⟩:=h;exact hO Z Z (c314p hg h) H
theorem wrapB (b:UInt8):gE.wrap ((b.toNat:Nat):Int)=(b.toNat:Nat):=w32 Y (by have:=b.toNat_lt;omega)
def Eb (s:Bz):Bool:=decide (1≤N s)&&decide (N s≤30)&&(s.takeWhile G9==s)&& !(iH s [36])&& !(Gt ((s.getD 0 0).toNat:Nat))&& !((s.getD 0 0).toNat==46)
theorem c311 (hg:hGr W0 G)(hw:Lw W0){s:Bz}(ha:asc s=true)(hl:N s≤1000000)(H:Hz):cP W0 297 [S s] H (I<|Eb s) H:=by
 refine goA 297 34 ?_;refine sA<|lV Z<|ln<|sA<|lV Z<|lV Z ?_;refine lB Z Z O (λh1=>?_)<|λh1=>?_
 ·refine lV Z<|lGY Z<|Aa Z Z O<|lGY Z<|Aa Z Z O<|lGY Z<|?_;refine lB Z Z O (λh2=>?_) (λh2=>?_)
  ·refine lV Z<|lV Z<|lGY Z<|Aa Z Z O<|lGY Z<|Gz Z Z (Zt hg ha H)<|lGY Z<|Aa Z Z O<|lGY Z<|?_;refine lB Z Z O (λh3=>?_) (λh3=>?_)
   ·refine lV Z<|lV Z<|lGY Z<|Aa Z Z O<|lGY Z<|?_;refine lCB Z Z (U4 hw Y) (λh4=>?_)<|λh4=>?_;·refine lGY Z<|Aa Z Z O<|Aa Z Z O<|Aa Z Z O<|lGN Z Z<|lGN Z Z<|lGN Z Z<|lGN Z Z<|lGN Z Z<|Aa Z Z O<|Aa Z Z O<|lGN Z Z<|lGN Z Z<|lGN Z Z<|Aa Z Z O<|?_;refine lV Z<|ln ?_;exact gG (A6 O Z (by simp_all[Cb,Eb]) Z)
    ·refine lGY Z<|Aa Z Z O<|Aa Z Z O<|Aa Z Z O<|lGY Z<|Aa Z Z O<|lGY Z<|Aa Z Z (by grind[Ah])<|lGY Z<|Aa Z Z O<|lGY Z<|?_;refine lCB Z Z (TC hg _ _) (λh5=>?_)<|λh5=>?_;·refine lGY Z<|Aa Z Z O<|Aa Z Z O<|Aa Z Z O<|lGN Z Z<|lGN Z Z<|lGN Z Z<|Aa Z Z O<|Aa Z Z O<|D7<|?_;exact gG (A6 O Z (by grind[Cb,Eb,wrapB]) Z)
     ·refine lGY Z<|Aa Z Z O<|Aa Z Z O<|Aa Z Z O<|lGY Z<|Aa Z Z O<|lGY Z<|Aa Z Z (by grind[Ah])<|lGY Z<|?_;refine lB Z Z O (λh6=>?_)<|λh6=>?_;·refine lV Z<|lV Z<|ln ?_;exact gG (A6 O Z bY37 Z)
      ·refine lV Z<|lV Z<|ln ?_;exact gG<|A6 O Z (by grind[Cb,Eb]) Z
   ·refine lV Z<|lV Z<|lGN Z Z<|lGN Z Z<|lGN Z Z<|lV Z<|lV Z<|lGN Z Z<|lGN Z Z<|lGN Z Z<|lGN Z Z<|lGN Z Z<|lV Z<|lV Z<|lGN Z Z<|lGN Z Z<|lGN Z Z<|lV Z<|lV Z<|ln ?_;exact gG<|A6 O Z (by grind[Cb,Eb]) Z
  ·refine lV Z<|lV Z<|lGN Z Z<|lGN Z Z<|lGN Z Z<|lGN Z Z<|lV Z<|lV Z<|lGN Z Z<|lGN Z Z<|lGN Z Z<|lV Z<|lV Z<|lGN Z Z<|lGN Z Z<|lGN Z Z<|lGN Z Z<|lGN Z Z<|lV Z<|lV Z<|lGN Z Z<|lGN Z Z<|lGN Z Z<|lV Z<|lV Z<|ln ?_;exact gG<|A6 O Z (by grind[Cb,Eb]) Z
 ·refine lV Z<|lGN Z Z<|lGN Z Z<|lGN Z Z<|lV Z<|lV Z<|lGN Z Z<|lGN Z Z<|lGN Z Z<|lGN Z Z<|lV Z<|lV Z ?_;refine lGN Z Z<|lGN Z Z<|lGN Z Z<|Aa Z Z O<|Aa Z Z O<|lGN Z Z<|lGN Z Z<|lGN Z Z<|lGN Z Z<|lGN Z Z<|Aa Z Z O<|Aa Z Z O<|?_;refine lGN Z Z<|lGN Z Z<|lGN Z Z<|Aa Z Z O<|Aa Z Z O<|D7<|?_;exact gG<|A6 O Z (by grind[Cb,Eb]) Z
theorem c312 (hg:hGr W0 G)(hw:Lw W0){s:Bz}(ha:asc s=true)(hl:N s≤1000000){b:Bool}(hr:I0 W0 s b)(H:Hz):cP W0 298 [S s] H (I<|Eb s&& !b&& !Qs s) H:=by
 refine goA 298 15 ?_;refine sA<|lV Z<|ln<|sA<|lV Z ?_;refine lCB Z Z (c311 hg hw ha hl H) (λh1=>?_)<|λh1=>?_
 ·refine lV Z<|lGY Z<|Aa Z Z O<|lGY Z<|?_;refine lCB Z Z (c314 hg hr H) (λh2=>?_)<|λh2=>?_;·refine lGY Z<|Aa Z Z O<|Aa Z Z O<|Aa Z Z O<|lGN Z Z<|lGN Z Z<|lGN Z Z<|Aa Z Z O<|Aa Z Z O<|D7<|?_;exact gG (A6 O Z (by simp_all[Cb]) Z)
  ·refine lGY Z<|Aa Z Z O<|Aa Z Z O<|Aa Z Z O<|lGY Z<|Aa Z Z O<|lGY Z<|?_;refine lCB Z Z (c315 hg hw ha hl H) (λh3=>?_)<|λh3=>?_;·refine lGY Z<|Aa Z Z O<|Aa Z Z O<|Aa Z Z O<|D7<|?_;exact gG (A6 O Z (by simp_all[Cb]) Z)
   ·refine lGY Z<|Aa Z Z O<|Aa Z Z O<|Aa Z Z O<|D7<|?_;exact gG<|A6 O Z (by simp_all[Cb]) Z
 ·refine lV Z<|lGN Z Z<|lGN Z Z<|lGN Z Z<|lV Z<|lV Z<|lGN Z Z<|lGN Z Z<|lGN Z Z<|lV Z<|lV Z<|ln ?_;exact gG<|A6 O Z (by simp_all[Cb]) Z
theorem Oz {R w t:Bz}(h:R=w++t):R.drop (N w)=t:=by rw[h];simp
structure At (s:Bz)(at':Nat)(R:Bz):Prop where
 le:at'≤N s
 asc:asc s=true
 len:N s≤1000000
 rest:s.drop at'=R
theorem At.ascR {s:Bz}{at':Nat}{R:Bz}(h:At s at' R):Abs.asc R=true:=by rw[←h.rest];exact eB.2 λb hb=>eB.1 h.asc b<|iG hb
theorem At.lenR {s:Bz}{at':Nat}{R:Bz}(h:At s at' R):at'+N R=N s:=by have:=h.le;rw[←h.rest,List.length_drop];omega
theorem ascL {a b:Bz}(h:asc (a++b)=true):asc a=true:=eB.2 λx hx=>eB.1 h x (by simp[hx])
theorem Hu (hg:hGr W0 G){H:Hz}{id:Nat}{s R:Bz}{at':Nat}(ha:At s at' R)(hi:H[id]?=some (rdr s at')):cP W0 286 [aP id 0] H (S R) H:=by rw[←ha.rest];exact c301 hg hi ha.le (by have:=ha.len;omega)
theorem wRef (hg:hGr W0 G)(hw:Lw W0){s R w t:Bz}{at':Nat}(ha:At s at' R)(hR:R=w++t)(hw1:R.takeWhile G9=w)(hw0:0<N w)(h33:gJ t [33]=false)(h40:gJ t [40]=false)(h91:gJ t [91]=false)(hr:I0 W0 w true):cP W0 265 [aP 0 0] [rdr s at'] (aU [Hh 5 w at',I true]) [rdr s<|at'+N w]:=by
 have haw:asc w=true:=ascL KJ;have hll:at'+(N w+N t)=N s:=by have:=ha.lenR;grind
 have hlen:=ha.len;have hdt:=Oz hR;refine goA 265 83 ?_;refine sA<|lV (v:=aP 1 0) Z<|lV Z<|ln<|sA<|lV Z<|lC Z (Hu hg ha Z)<|lC Z (show cP W0 289 [S R,.fn 264 [] []] _ (S w) _ from hw1▸Zt hg ha.ascR _)<|lV Z<|ln<|sA<|lV Z<|lC Z (Hu hg ha Z)<|lV Z<|lV Z<|Aa (v:=S t) bY64 Z (by simp only[Bl,Ah,and_true];grind)<|lV Z<|ln<|sa<|bA<|sA<|lV Z ?_;refine lCB Z Z Fo (λh1=>?_)<|λh1=>?_;·simp_all
 ·refine lV Z<|ln<|aF Z<|sA<|lV Z ?_;refine lCB Z Z Fo (λh2=>?_)<|λh2=>?_;·simp_all
  ·refine lV Z<|lGN Z Z<|lGN Z Z<|lV Z<|lV Z<|ln<|aF Z<|sA<|lV Z ?_;refine lCB Z Z Fo (λh3=>?_)<|λh3=>?_;·simp_all
   ·refine lV Z<|lGN Z Z<|lGN Z Z<|lV Z<|lV Z<|ln<|aF Z<|sA<|lV Z ?_;refine lCB Z Z (c314 hg hr _) (λh4=>?_)<|λh4=>?_;·refine lV Z<|ln<|aT Z<|sA<|lV Z<|lV Z<|lV Z<|lV Z<|lC Z (AS hg _ _ Z Y Y Z)<|lV Z<|lV Z<|Fb Z<|lV Z<|ln ?_;exact gG (A4 O Z Z 100 Z Z)
    grind
theorem wCall (hg:hGr W0 G)(hw:Lw W0){s R w t:Bz}{at':Nat}(ha:At s at' R)(hR:R=w++t)(hw1:R.takeWhile G9=w)(hw0:0<N w)(h33:gJ t [33]=false)(h40:gJ t [40]=true)(hcal:Eb w=true):cP W0 265 [aP 0 0] [rdr s at'] (aU [Hh 7 w at',I true]) [rdr s<|at'+N w]:=by
 have haw:asc w=true:=ascL KJ;have hll:at'+(N w+N t)=N s:=by have:=ha.lenR;grind
 have hlen:=ha.len;have hdt:=Oz hR;refine goA 265 83 ?_;refine sA<|lV (v:=aP 1 0) Z<|lV Z<|ln<|sA<|lV Z<|lC Z (Hu hg ha Z)<|lC Z (show cP W0 289 [S R,.fn 264 [] []] _ (S w) _ from hw1▸Zt hg ha.ascR _)<|lV Z<|ln<|sA<|lV Z<|lC Z (Hu hg ha Z)<|lV Z<|lV Z<|Aa (v:=S t) bY64 Z (by simp only[Bl,Ah,and_true];grind)<|lV Z<|ln<|sa<|bA<|sA<|lV Z ?_;refine lCB Z Z Fo (λh1=>?_)<|λh1=>?_;·simp_all
 ·refine lV Z<|ln<|aF Z<|sA<|lV Z ?_;refine lCB Z Z Fo (λh2=>?_) (λh2=>?_)
  ·refine lV Z<|lGY Z<|Aa Z Z O<|lGY Z<|?_;refine lCB Z Z (c311 hg hw haw Y _) (λh3=>?_)<|λh3=>?_;·refine lV Z<|lV Z<|ln<|aT Z<|sA<|lV Z<|lV Z<|lV Z<|lV Z<|lC Z (AS hg _ _ Z Y Y Z)<|lV Z<|lV Z<|Fb Z<|lV Z<|ln ?_;exact gG (A4 O Z Z 100 Z Z)
   grind
  simp_all
theorem wName (hg:hGr W0 G)(hw:Lw W0){s R w t:Bz}{at':Nat}(ha:At s at' R)(hR:R=w++t)(hw1:R.takeWhile G9=w)(hw0:0<N w)(h33:gJ t [33]=false)(h40:gJ t [40]=false)(h91:gJ t [91]=false)(hr:I0 W0 w false)(htr:Qs w=false)(hcal:Eb w=true):cP W0 265 [aP 0 0] [rdr s at'] (aU [Hh 6 w at',I true]) [rdr s<|at'+N w]:=by
 have haw:asc w=true:=ascL KJ;have hll:at'+(N w+N t)=N s:=by have:=ha.lenR;grind
 have hlen:=ha.len;have hdt:=Oz hR;refine goA 265 83 ?_;refine sA<|lV (v:=aP 1 0) Z<|lV Z<|ln<|sA<|lV Z<|lC Z (Hu hg ha Z)<|lC Z (show cP W0 289 [S R,.fn 264 [] []] _ (S w) _ from hw1▸Zt hg ha.ascR _)<|lV Z<|ln<|sA<|lV Z<|lC Z (Hu hg ha Z)<|lV Z<|lV Z<|Aa (v:=S t) bY64 Z (by simp only[Bl,Ah,and_true];grind)<|lV Z<|ln<|sa<|bA<|sA<|lV Z ?_;refine lCB Z Z Fo (λh1=>?_)<|λh1=>?_;·simp_all
 ·refine lV Z<|ln<|aF Z<|sA<|lV Z ?_;refine lCB Z Z Fo (λh2=>?_)<|λh2=>?_;·simp_all
  ·refine lV Z<|lGN Z Z<|lGN Z Z<|lV Z<|lV Z<|ln<|aF Z<|sA<|lV Z ?_;refine lCB Z Z Fo (λh3=>?_)<|λh3=>?_;·simp_all
   ·refine lV Z<|lGN Z Z<|lGN Z Z<|lV Z<|lV Z<|ln<|aF Z<|sA<|lV Z ?_;refine lCB Z Z (c314 hg hr _) (λh4=>?_)<|λh4=>?_;·grind
    ·refine lV Z<|ln<|aF Z<|sA<|lV Z ?_;refine lCB Z Z (c315 hg hw haw Y _) (λh5=>?_)<|λh5=>?_;·grind
     ·refine lV Z<|ln<|aF Z<|sA<|lV Z ?_;refine lCB Z Z (c312 hg hw haw Y hr _) (λh6=>?_)<|λh6=>?_;·refine lV Z<|ln<|aT Z<|sA<|lV Z<|lV Z<|lV Z<|lV Z<|lC Z (AS hg _ _ Z Y Y Z)<|lV Z<|lV Z<|Fb Z<|lV Z<|ln ?_;exact gG (A4 O Z Z 100 Z Z)
      grind
theorem TZ {w u:Bz}:(w++33::u).take (N w+1)=w++[33]:=by grind
theorem far (hg:hGr W0 G){s R w u c:Bz}{at':Nat}(ha:At s at' R)(hR:R=w++33::u)(hc1:u.takeWhile Qi=c)(hcl:N c≤N u)(hw0:0<N w)(hr:I0 W0 (w++33::c) true):cP W0 295 [aP 0 0,J U (N w:Nat)] [rdr s at'] (aU [Hh 5 (w++33::c) at',I true]) [rdr s<|at'+N (w++33::c)]:=by
 have hau:asc u=true:=by have:=ha.ascR;simp_all[asc]
 have hll:at'+(N w+(N u+1))=N s:=by have:=ha.lenR;grind
 have hsl:=Nat.le_trans (Nat.le_of_eq hll) ha.len;have hlen:=ha.len;have hdt:=Oz hR;refine goA 295 47 ?_;refine sA<|lV (v:=aP 1 0) Z<|lV Z<|ln<|sA<|lV Z<|lC Z (Hu hg ha Z)<|lV Z<|ln<|sA<|lV Z<|lV Z<|Aa (v:=S (33::u)) (by show _=some (ARes.val (S (33::u)) _ _);rw[←hdt];rfl) Z bY47<|lC Z (show cP W0 109 [S (33::u),S [33]] _ (aU [S u,I true]) _ from Ii)<|lV Z<|lV Z ?_;refine lB Z Z O (λh1=>?_)<|λh1=>?_
 ·refine lV Z<|lV Z<|ln<|sa<|sA<|lV Z<|lV Z<|lV Z<|lGY Z<|Aa Z Z O<|lGY Z<|?_;refine lB Z Z O (λh2=>?_)<|λh2=>?_;·grind
  ·refine lV Z<|ln<|aF Z<|kA<|sa ?_;refine gQ hg ?_;refine qV Z<|qV Z<|qAddN (a:=N w) (b:=1) Z Z Z Y<|Ao (v:=S<|w++[33]) (by show some (ARes.val (S<|R.take<|N w+1) _ _)=_;rw[hR,TZ]) Z bY47<|Ao Z Z O<|Cd Z Z (show cP W0 289 [S u,.fn 324 [] []] _ (S c) _ from hc1▸cCell hg hau _)<|Ao (v:=S (w++33::c)) (by show some (ARes.val (S<|(w++[33])++c) _ _)=_;rw[List.append_assoc];rfl) Z Yw<|Ao Z Z O<|Dx<|gP<|gP<|gU hg<|Aa Z Z O<|?_;refine lCB Z Z (c314 hg hr _) (λh3=>?_)<|λh3=>?_;·refine lV Z<|ln<|aF Z<|kA<|sA<|lV Z<|lV Z<|lV Z<|lV Z<|lC Z (AS hg _ _ Z (by grind) (by grind) Z)<|lV Z<|lV Z<|Fb Z<|lV Z<|ln ?_;exact gG (A4 O Z Z 100 Z Z)
   grind
 grind
end Go.Abs
namespace Go.Abs
open Go.Proofs Go.RowKit
set_option maxRecDepth 10000000
def dge0 :Ent:=⟨170,[aG z0L],aU [aG z5L,J U 0]⟩
theorem dgr0 :Kw [] 60 170 [aG z0L] []=some (aU [aG z5L,J U 0],[]):=Ar
theorem dgk0 {W0:World}(hk:Kn W0):Dh gH W0 dge0:=Eq hk Dw dgr0 Ar Ar
def dge1 :Ent:=⟨111,[S [48]],aU [aG z5L,J U 0]⟩
theorem dgr1 :Kw [dge0] 60 111 [S [48]] []=some (aU [aG z5L,J U 0],[]):=Ar
theorem dgk1 {W0:World}(hk:Kn W0):Dh gH W0 dge1:=Eq hk (L5 (dgk0 hk) Dw) dgr1 Ar Ar
def dge2 :Ent:=⟨170,[aG z4L],aU [aG QC,J U 0]⟩
theorem dgr2 :Kw [] 60 170 [aG z4L] []=some (aU [aG QC,J U 0],[]):=Ar
theorem dgk2 {W0:World}(hk:Kn W0):Dh gH W0 dge2:=Eq hk Dw dgr2 Ar Ar
def dge3 :Ent:=⟨111,[S [49]],aU [aG QC,J U 0]⟩
theorem dgr3 :Kw [dge2] 60 111 [S [49]] []=some (aU [aG QC,J U 0],[]):=Ar
theorem Z0 {W0:World}(hk:Kn W0):Dh gH W0 dge3:=Eq hk (L5 (dgk2 hk) Dw) dgr3 Ar Ar
def dge4 :Ent:=⟨170,[aG z3L],aU [aG UU,J U 0]⟩
theorem dgr4 :Kw [] 60 170 [aG z3L] []=some (aU [aG UU,J U 0],[]):=Ar
theorem dgk4 {W0:World}(hk:Kn W0):Dh gH W0 dge4:=Eq hk Dw dgr4 Ar Ar
def dge5 :Ent:=⟨111,[S [50]],aU [aG UU,J U 0]⟩
theorem dgr5 :Kw [dge4] 60 111 [S [50]] []=some (aU [aG UU,J U 0],[]):=Ar
theorem DS {W0:World}(hk:Kn W0):Dh gH W0 dge5:=Eq hk (L5 (dgk4 hk) Dw) dgr5 Ar Ar
def dge6 :Ent:=⟨170,[aG z2L],aU [aG UN,J U 0]⟩
theorem dgr6 :Kw [] 60 170 [aG z2L] []=some (aU [aG UN,J U 0],[]):=Ar
theorem dgk6 {W0:World}(hk:Kn W0):Dh gH W0 dge6:=Eq hk Dw dgr6 Ar Ar
def dge7 :Ent:=⟨111,[S [51]],aU [aG UN,J U 0]⟩
theorem dgr7 :Kw [dge6] 60 111 [S [51]] []=some (aU [aG UN,J U 0],[]):=Ar
theorem dgk7 {W0:World}(hk:Kn W0):Dh gH W0 dge7:=Eq hk (L5 (dgk6 hk) Dw) dgr7 Ar Ar
def dge8 :Ent:=⟨170,[aG z1L],aU [aG PK,J U 0]⟩
theorem dgr8 :Kw [] 60 170 [aG z1L] []=some (aU [aG PK,J U 0],[]):=Ar
theorem dgk8 {W0:World}(hk:Kn W0):Dh gH W0 dge8:=Eq hk Dw dgr8 Ar Ar
def dge9 :Ent:=⟨111,[S [52]],aU [aG PK,J U 0]⟩
theorem dgr9 :Kw [dge8] 60 111 [S [52]] []=some (aU [aG PK,J U 0],[]):=Ar
theorem dgk9 {W0:World}(hk:Kn W0):Dh gH W0 dge9:=Eq hk (L5 (dgk8 hk) Dw) dgr9 Ar Ar
end Go.Abs
namespace Go.Abs
open Go.Proofs Go.RowKit
set_option maxRecDepth 100000
variable {W0 : World} {G : List (Nat × AVal)}
set_option maxHeartbeats 2000000
theorem TQ {t:Bz}{q:UInt8}(hk:0<N t)(hq:t.head?≠some q):¬((((t.getD 0 0).toNat:Nat):Int) !=((q.toNat:Nat):Int))=false:=by intro h;rw[bNf]at h;cases t with|nil=>simp at hk|cons a r=>exact hq<|congrArg some<|UInt8.toNat_inj.1<|Int.ofNat.inj h
theorem qTwo (hg:hGr W0 G){s t:Bz}{at':Nat}(ha:At s at' (39::84::119::111::32::120::39::t))(hq:t.head?≠some 39):cP W0 290 [aP 0 0] [rdr s at'] (aU [S [84,119,111,32,120],J U 7]) [rdr s at']:=by
 refine goA 290 47 ?_;refine sA<|lV Z<|lV Z<|ln<|sA<|lV Z<|lC Z (Hu hg ha Z)<|lV Z<|ln<|sA<|lV Z<|ln<|sa<|sA<|lV Z<|ln<|bA ?_;refine ExA.unroll 6 ?_;refine gV ?_;refine sa<|sA<|lV Z<|lV Z<|lV Z ?_;refine lB Z Z O (λh1=>?_)<|λh1=>?_
 ·refine ln<|aT Z<|kA<|sa<|bA<|sa<|sa ?_;refine gQ hg ?_;refine qV Z<|qV Z<|Ao Z Z Va<|qV Z<|Ao Z Z Va ?_;refine qB Z Z O (λh2=>?_)<|λh2=>?_;·simp_all
  ·refine Dx<|?_;refine aF Z<|kA<|oA<|lV Z<|lV Z<|lV Z<|Aa (v:=J .u8 84) Z Z Va<|lV Z<|Aa Z Z (by simp_all[Ah,C0])<|lV Z<|ln<|oA<|lV Z<|Aa (v:=J U 2) Z Z (by simp_all[Ah])<|lV Z<|ln ?_;refine gV ?_;refine sa<|sA<|lV Z<|lV Z<|lV Z ?_;refine lB Z Z O (λh3=>?_) (λh3=>?_)
   ·refine ln<|aT Z<|kA<|sa<|bA<|sa<|sa ?_;refine gQ hg ?_;refine qV Z<|qV Z<|Ao Z Z Va<|qV Z<|Ao Z Z Va ?_;refine qB Z Z O (λh4=>?_)<|λh4=>?_;·simp_all
    ·refine Dx<|?_;refine aF Z<|kA<|oA<|lV Z<|lV Z<|lV Z<|Aa (v:=J .u8 119) Z Z Va<|lV Z<|Aa Z Z (by simp_all[Ah,C0])<|lV Z<|ln<|oA<|lV Z<|Aa (v:=J U 3) Z Z (by simp_all[Ah])<|lV Z<|ln ?_;refine gV ?_;refine sa<|sA<|lV Z<|lV Z<|lV Z ?_;refine lB Z Z O (λh5=>?_) (λh5=>?_)
     ·refine ln<|aT Z<|kA<|sa<|bA<|sa<|sa ?_;refine gQ hg ?_;refine qV Z<|qV Z<|Ao Z Z Va<|qV Z<|Ao Z Z Va ?_;refine qB Z Z O (λh6=>?_)<|λh6=>?_;·simp_all
      ·refine Dx<|?_;refine aF Z<|kA<|oA<|lV Z<|lV Z<|lV Z<|Aa (v:=J .u8 111) Z Z Va<|lV Z<|Aa Z Z (by simp_all[Ah,C0])<|lV Z<|ln<|oA<|lV Z<|Aa (v:=J U 4) Z Z (by simp_all[Ah])<|lV Z<|ln ?_;refine gV ?_;refine sa<|sA<|lV Z<|lV Z<|lV Z ?_;refine lB Z Z O (λh7=>?_) (λh7=>?_)
       ·refine ln<|aT Z<|kA<|sa<|bA<|sa<|sa ?_;refine gQ hg ?_;refine qV Z<|qV Z<|Ao Z Z Va<|qV Z<|Ao Z Z Va ?_;refine qB Z Z O (λh8=>?_)<|λh8=>?_;·simp_all
        ·refine Dx<|?_;refine aF Z<|kA<|oA<|lV Z<|lV Z<|lV Z<|Aa (v:=J .u8 32) Z Z Va<|lV Z<|Aa Z Z (by simp_all[Ah,C0])<|lV Z<|ln<|oA<|lV Z<|Aa (v:=J U 5) Z Z (by simp_all[Ah])<|lV Z<|ln ?_;refine gV ?_;refine sa<|sA<|lV Z<|lV Z<|lV Z ?_;refine lB Z Z O (λh9=>?_) (λh9=>?_)
         ·refine ln<|aT Z<|kA<|sa<|bA<|sa<|sa ?_;refine gQ hg ?_;refine qV Z<|qV Z<|Ao Z Z Va<|qV Z<|Ao Z Z Va ?_;refine qB Z Z O (λh10=>?_)<|λh10=>?_;·simp_all
          ·refine Dx<|?_;refine aF Z<|kA<|oA<|lV Z<|lV Z<|lV Z<|Aa (v:=J .u8 120) Z Z Va<|lV Z<|Aa Z Z (by simp_all[Ah,C0])<|lV Z<|ln<|oA<|lV Z<|Aa (v:=J U 6) Z Z (by simp_all[Ah])<|lV Z<|ln ?_;refine gV ?_;refine sa<|sA<|lV Z<|lV Z<|lV Z ?_;refine lB Z Z O (λh11=>?_) (λh11=>?_)
           ·refine ln<|aT Z<|kA<|sa<|bA<|sa<|sa ?_;refine gQ hg ?_;refine qV Z<|qV Z<|Ao Z Z Va<|qV Z<|Ao Z Z Va ?_;refine qB Z Z O (λh12=>?_) (λh12=>?_)
            ·refine Dx<|?_;refine aT Z<|sa<|sa ?_;refine gQ hg ?_;refine qV Z<|Ao (v:=J U 7) Z Z (by simp_all[Ah])<|qV Z<|qV Z ?_;refine qB Z Z O (λh13=>?_)<|λh13=>?_;·refine qV Z<|qGN Z Z<|qGN Z Z<|qGN Z Z<|qGN Z Z<|qGN Z Z<|qGN Z Z<|qGN Z Z<|qV Z<|Dx<|hU hg Z<|gP<|gU hg<|Aa Z Z O<|Aa (v:=S [84,119,111,32,120]) Z Z O<|Aa Z Z O<|Aa (v:=J U 7) Z Z (by simp_all[Ah])<|Aa Z Z O<|Aa Z Z O<|D7<|?_;exact gG (A4 O Z Z 100 Z Z)
             ·have hk:0<N t:=by rcases Nat.eq_zero_or_pos (N t)with h|h;all_goals simp_all
              refine qV Z<|qGY Z<|qV Z<|qGY Z<|qV Z<|qGY Z<|Ao (v:=J U 7) Z Z (by simp_all[Ah])<|qGY Z<|Ao (v:=J .u8 ((t.getD 0 0).toNat:Nat)) Z Z Va<|qGY Z<|qV Z<|qGY Z<|Ao Z Z Va ?_;refine qGY Z<|?_;refine qB Z Z O (λh14=>?_)<|λh14=>?_;·refine qV Z<|Dx<|hU hg Z<|gP<|gU hg<|Aa Z Z O<|Aa (v:=S [84,119,111,32,120]) Z Z O<|Aa Z Z O<|Aa (v:=J U 7) Z Z (by simp_all[Ah])<|Aa Z Z O<|Aa Z Z O<|D7<|?_;exact gG<|A4 O Z Z 100 Z Z
              grind[TQ]
            simp_all
           ·exact absurd h11 Jo
         ·exact absurd h9 Jo
       grind
     grind
   grind
 grind
theorem qA (hg:hGr W0 G){s t:Bz}{at':Nat}(ha:At s at' (34::97::34::t))(hq:t.head?≠some 34):cP W0 290 [aP 0 0] [rdr s at'] (aU [S [97],J U 3]) [rdr s at']:=by
 refine goA 290 47 ?_;refine sA<|lV Z<|lV Z<|ln<|sA<|lV Z<|lC Z (Hu hg ha Z)<|lV Z<|ln<|sA<|lV Z<|ln<|sa<|sA<|lV Z<|ln<|bA ?_;refine ExA.unroll 2 ?_;refine gV ?_;refine sa<|sA<|lV Z<|lV Z<|lV Z ?_;refine lB Z Z O (λh1=>?_)<|λh1=>?_
 ·refine ln<|aT Z<|kA<|sa<|bA<|sa<|sa ?_;refine gQ hg ?_;refine qV Z<|qV Z<|Ao Z Z Va<|qV Z<|Ao Z Z Va ?_;refine qB Z Z O (λh2=>?_)<|λh2=>?_;·simp_all
  ·refine Dx<|?_;refine aF Z<|kA<|oA<|lV Z<|lV Z<|lV Z<|Aa (v:=J .u8 97) Z Z Va<|lV Z<|Aa Z Z (by simp_all[Ah,C0])<|lV Z<|ln<|oA<|lV Z<|Aa (v:=J U 2) Z Z (by simp_all[Ah])<|lV Z<|ln ?_;refine gV ?_;refine sa<|sA<|lV Z<|lV Z<|lV Z ?_;refine lB Z Z O (λh3=>?_) (λh3=>?_)
   ·refine ln<|aT Z<|kA<|sa<|bA<|sa<|sa ?_;refine gQ hg ?_;refine qV Z<|qV Z<|Ao Z Z Va<|qV Z<|Ao Z Z Va ?_;refine qB Z Z O (λh4=>?_) (λh4=>?_)
    ·refine Dx<|?_;refine aT Z<|sa<|sa ?_;refine gQ hg ?_;refine qV Z<|Ao (v:=J U 3) Z Z (by simp_all[Ah])<|qV Z<|qV Z ?_;refine qB Z Z O (λh5=>?_)<|λh5=>?_;·refine qV Z<|qGN Z Z<|qGN Z Z<|qGN Z Z<|qGN Z Z<|qGN Z Z<|qGN Z Z<|qGN Z Z<|qV Z<|Dx<|hU hg Z<|gP<|gU hg<|Aa Z Z O<|Aa (v:=S [97]) Z Z O<|Aa Z Z O<|Aa (v:=J U 3) Z Z (by simp_all[Ah])<|Aa Z Z O<|Aa Z Z O<|D7<|?_;exact gG (A4 O Z Z 100 Z Z)
     ·have hk:0<N t:=by grind
      refine qV Z<|qGY Z<|qV Z<|qGY Z<|qV Z<|qGY Z<|Ao (v:=J U 3) Z Z (by simp_all[Ah])<|qGY Z<|Ao (v:=J .u8 ((t.getD 0 0).toNat:Nat)) Z Z Va<|qGY Z<|qV Z<|qGY Z<|Ao Z Z Va ?_;refine qGY Z<|?_;refine qB Z Z O (λh6=>?_)<|λh6=>?_;·refine qV Z<|Dx<|hU hg Z<|gP<|gU hg<|Aa Z Z O<|Aa (v:=S [97]) Z Z O<|Aa Z Z O<|Aa (v:=J U 3) Z Z (by simp_all[Ah])<|Aa Z Z O<|Aa Z Z O<|D7<|?_;exact gG<|A4 O Z Z 100 Z Z
      grind[TQ]
    grind
   grind
 grind
theorem gK (hk:Kn W0){f:Nat}{args:List AVal}{v:AVal}(h:Kw [] 60 f args []=some (v,[]))(h1:A8 0 args=true)(h2:blw 0 v=true)(H:Hz):cP W0 f args H v H:=hO h1 h2 (Eq hk Dw h h1 h2).2.2 H
theorem IN {s t:Bz}{b:Bool}{H:Hz}(h:gJ s t=b):cP W0 109 [S s,S t] H (aU [S<|iC s t,I b]) H:=by subst h;exact Ii
theorem plainA (hk:Kn W0)(H:Hz):cP W0 291 [S [97]] H (I true) H:=gK hk Ar Z Z H
theorem plainX (hk:Kn W0)(H:Hz):cP W0 291 [S [120]] H (I true) H:=gK hk Ar Z Z H
theorem RI (hk:Kn W0){s u c:Bz}{at':Nat}(ha:At s at' ([39,84,119,111,32,120,39]++33::u))(hc1:u.takeWhile Qi=c)(hcl:N c≤N u)(hr:I0 W0 ([39,84,119,111,32,120,39]++33::c) true):cP W0 263 [aP 0 0] [rdr s at'] (aU [Hh 5 ([39,84,119,111,32,120,39]++33::c) at',I true]) [rdr s<|at'+N ([39,84,119,111,32,120,39]++33::c)]:=by have hg:=grK hk;have hw:=hk.w;refine goA 263 16 ?_;refine sA<|lV (v:=aP 1 0) Z<|lV Z<|ln<|sA<|lV Z<|lC Z (A5.at1 (qTwo hg (t:=33::u) ha B4) Z Z Z Z Z Z Z Z)<|lV Z<|lV Z<|lV Z<|lV Z<|lV Z<|ln<|sA<|lV Z<|lV Z<|lC Z (A5.at1 (far hg (w:=[39,84,119,111,32,120,39]) ha Z hc1 hcl V hr) Z Z Z Z Z Z Z Z)<|lV Z<|lV Z<|Fb Z<|lV Z<|ln ?_;exact gG<|A4 O Z Z 100 Z Z
theorem textA (hk:Kn W0){s t:Bz}{at':Nat}(ha:At s at' (34::97::34::t))(hq:t.head?≠some 34):cP W0 261 [aP 0 0] [rdr s at'] (aU [Hh 2 [97] at',I true]) [rdr s<|at'+3]:=by
 have hg:=grK hk;have hw:=hk.w;have hll:at'+(N t+3)=N s:=by have:=ha.lenR;omega
 have hlen:=ha.len;refine goA 261 23 ?_;refine sA<|lV (v:=aP 1 0) Z<|lV Z<|ln<|sA<|lV Z<|lC Z (A5.at1 (qA hg ha hq) Z Z Z Z Z Z Z Z)<|lV Z<|lV Z<|lV Z<|lV Z<|lV Z<|ln<|sa<|sA<|lV Z<|lC Z (plainA hk _)<|lV Z<|ln<|aF Z<|kA<|sA<|lV Z<|lV Z<|lV Z<|lC Z (AS hg (n:=3) _ _ Z Y Y Z)<|lV Z<|lV Z<|Fb Z<|lV Z<|ln ?_;exact gG<|A4 O Z Z 100 Z Z
theorem twDigit {c:UInt8}{t:Bz}(hc:Jv c=true)(ht:t.takeWhile Jv=[]):(c::t).takeWhile Jv=[c]:=by simp[hc,ht]
theorem numb (hk:Kn W0){s t:Bz}{at':Nat}{c:UInt8}(ha:At s at' (c::t))(hc:Jv c=true)(ht:t.takeWhile Jv=[])(hdot:gJ t [46]=false){M:Int}(hdec:∀H,cP W0 111 [S [c]] H (aU [aG [J U M,J U 0],J U 0]) H):cP W0 260 [aP 0 0] [rdr s at'] (aU [Hh 1 [c] at',I true]) [rdr s<|at'+1]:=by
 have hg:=grK hk;have hw:=hk.w;have hll:at'+(N t+1)=N s:=by have:=ha.lenR;omega
 have hlen:=ha.len;refine goA 260 48 ?_;refine sA<|lV (v:=aP 1 0) Z<|lV Z<|ln<|sA<|lV Z<|lC Z (Hu hg ha Z)<|lC Z (show cP W0 289 [S (c::t),.fn 259 [] []] _ (S [c]) _ from twDigit hc ht▸cDigit hg ha.ascR _)<|lV Z<|ln<|sa<|sA<|lV Z<|lC Z (Hu hg ha Z)<|lV Z<|lV Z<|Aa (v:=S t) Z Z bY169<|lC Z (IN hdot)<|lV Z<|lV Z<|lV Z<|lV Z<|lV Z<|ln<|sA<|lV Z<|ln<|aF Z<|kA<|sa<|sA<|lV Z<|lC Z (hdec _)<|lV Z<|lV Z<|lV Z<|lV (v:=aP 2 0) Z<|Fb Z<|lV Z<|ln<|sA<|lV Z<|lV Z<|ln<|aF Z<|kA<|sA<|lV Z<|lV Z<|lV Z<|lV Z<|lC Z (AS hg (n:=1) _ _ Z Y Y Z)<|lV Z<|lV Z<|Fb Z<|lV Z<|ln ?_;exact gG<|A4 O Z Z 100 Z Z
def sgs :List AVal:=[S [60,62],S [60,61],S [62,61],S [61],S [60],S [62],S [38],S [43],S [45],S [42],S [47],S [94],S [37],S [40],S [41],S [44],S [59],S [58],S [123],S [125]]
theorem hpB {s t:Bz}{b:Bool}{H:Hz}(h:gJ s t=b):cP W0 285 [S s,S t] H (I b) H:=by subst h;exact Fo
theorem sign (hk:Kn W0){s R:Bz}{at' k:Nat}{w:Bz}(ha:At s at' R)(hk20:k<20)(hpre:∀i,i<k→∃u,sgs.getD i .nilIf=S u∧gJ R u=false)(hkw:sgs.getD k .nilIf=S w)(hpw:gJ R w=true)(hw0:0<N w)(hwl:N w≤N R):cP W0 258 [aP 0 0] [rdr s at'] (aU [Hh 8 w at',I true]) [rdr s<|at'+N w]:=by
 have hg:=grK hk;have hw:=hk.w;have hll:=ha.lenR;have hlen:=ha.len;refine goA 258 27 ?_;refine sA<|lV (v:=aP 1 0) Z<|lV Z<|ln<|sa<|sA<|lV Z<|lV Z<|lV Z<|ln<|bA ?_;refine ExA.loop (σ:=Nat) (λi=>⟨.al [(0,aP 0 0),(2,aP 1 0),(3,I false),(6,aR 1 sgs),(7,J U 20),(8,J U (i:Nat))],[rdr s at',C 223 [J U 0,S [],J U 0] false],27⟩) (λi=>i≤k) (λi=>k-i) 0 ?h0 (hZ _) ?_;case h0=>exact Wl rfl rfl (agC rfl<|agC rfl<|agC rfl<|agC rfl<|agC rfl<|agC rfl agN) rfl
 intro i hI hlen;have hi20:decide (((i:Nat):Int)<20)=true:=decide_eq_true Y;rcases Nat.lt_or_eq_of_le hI with hlt|rfl;·obtain⟨u,hu,hpu⟩:=hpre i hlt;refine sA ?_;refine lBk Z Z hi20<|D7<|?_;refine sa<|aT Z<|kA<|sa<|bA<|sA<|Aa (v:=aE (S u) 0) (show some (ARes.val (aE (sgs.getD i .nilIf) 0) _ [(0,((i:Nat):Int)),(((i:Nat):Int)+1,((20:Nat):Int))])=_ from by rw[hu]) Z EK<|lV Z<|lV Z<|ln<|sA<|lV Z<|lC Z (Hu hg ha Z)<|lV Z<|lC Z (hpB hpu)<|ln<|aF Z<|kA<|oA ?_;refine lAddN (b:=1) Z Z Z Y<|Aa Z Z O<|D7<|?_;exact⟨i+1,hlt,Y,Wl (n:=27) Jm Jm (by exact agC rfl<|agC Z<|agC Z<|agC Z<|agC Z<|agC Z agN) Jm⟩
 ·refine sA ?_;refine lBk Z Z hi20<|D7<|?_;refine sa<|aT Z<|kA<|sa<|bA<|sA<|Aa (v:=aE (S w) 0) (show some (ARes.val (aE (sgs.getD i .nilIf) 0) _ [(0,((i:Nat):Int)),(((i:Nat):Int)+1,((20:Nat):Int))])=_ from by rw[hkw]) Z EK<|lV Z<|lV Z<|ln<|sA<|lV Z<|lC Z (Hu hg ha Z)<|lV Z<|lC Z (hpB hpw)<|ln<|aT Z<|sA<|lV Z<|lV Z<|lV Z<|lV Z<|lC Z (AS hg _ _ Z Y hw0 Z)<|lV Z<|lV Z<|Fb Z<|lV Z<|ln ?_;exact gG<|A4 O Z Z 100 Z Z
end Go.Abs
