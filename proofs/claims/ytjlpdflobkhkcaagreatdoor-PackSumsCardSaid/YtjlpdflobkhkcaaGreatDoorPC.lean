/- A part of the proof that tabula/tabulalaw25.PackSums returns true for every input, each argument reading as it did (its card: the last text). No conditions of its own. -/
import Derived.Test.YtjlpdflobkhkcaaGreatDoorPB
import Derived.Lib.TrimAscii
import Derived.Recover
set_option linter.unusedVariables false
set_option linter.unusedSimpArgs false
namespace Go.Abs
open Go.RowKit
structure AOper where
 dst:Option Nat
 guard:Option (Nat×Bool)
 op:AOp
inductive ACode where
 |skip|ops (l:List AOper)|draw (l:List AOper) (b:Bool:=false)|drawC (l:List AOper) (p:SP)|seq (a b:ACode)|cond (c:AOpd) (x y:ACode)|block (id:Nat) (c:ACode)|loop (c:ACode)|exit (id:Nat)|ret|stuck|scope (c:ACode)|mark
def D7 (ops:Array Oper):Option (Nat×Bool)→Option (Option<|Nat×Bool)
 |none=>some none
 |some (j,b)=>match(ops[j]?).bind (·.dst)with
  |some d=>some (some (d,b))|none=>none
def Be (P:Program)(ops:Array Oper)(o:Oper):Option AOper:=
 match D7 ops o.guard with
 |some g=>match Ar P o.op with
  |some op=>some ⟨o.dst,g,op⟩|none=>none
 |none=>none
def Bc (P:Program)(ops:Array Oper):List Oper→Option (List AOper)
 | []=>some []
 |o::r=>match Be P ops o with
  |some a=>match Bc P ops r with
   |some l=>some (a::l)|none=>none
  |none=>none
def loud (a:AOper):Bool:=match a.op with
 |.call _ _=>false|op=>Nat.ble 2 op.kind
def useC (l:List AOper)(p:SP):Bool:=!(Yk p)&&(((p.states.all λx=>Nat.ble (p.steps x).length 1)&&l.any loud)||(Nat.ble 2 (l.filter loud).length&&Nat.ble 20 p.n))
def Bq (P:Program):Code→Option ACode
 |.skip=>some .skip
 |.region _ ops d=>match Bc P ops ops.toList with
  |some l=>cond d (cond (J1 P ops<|Ep P ops.toList) (some<|cond (useC l<|Ep P ops.toList) (.drawC l<|Ep P ops.toList)<|.draw l<|Yk<|Ep P ops.toList)<|some .stuck) (some<|.ops l)|none=>some .stuck
 |.seq x y=>match Bq P x with
  |some a=>match Bq P y with
   |some b=>some (.seq a b)|none=>none
  |none=>none
 |.cond c x y=>match Aj c with
  |some c'=>match Bq P x with
   |some a=>match Bq P y with
    |some b=>some (.cond c' a b)|none=>none
   |none=>none
  |none=>some .stuck
 |.block id c=>match Bq P c with
  |some a=>some (.block id a)|none=>none
 |.loop c=>match Bq P c with
  |some a=>some (.loop a)|none=>none
 |.exit id=>some (.exit id)|.ret=>some .ret
 |.scope c=>match Bq P c with
  |some a=>some (.scope a)|none=>none
 |.label _=>some .mark|_=>some .stuck
section
variable (P : Program) (W0 : World) (G : List (Nat × AVal))
def I6 (o:AOper)(s:St)(K:St→Prop):Prop:=
 match o.guard with
 |none=>Ia P W0 s.H (aop G s o.op) λv H'=>Rx s o.dst v H' K
 |some (d,want)=>match s.env.get d with
  |some (.bool b)=>cond (cond b want<|not want) (Ia P W0 s.H (aop G s o.op) λv H'=>Rx s o.dst v H' K) (Rx s o.dst (.tup []) s.H K)|some (.tup [])=>Rx s o.dst (.tup []) s.H K|_=>False
def Av :List AOper→St→(St→Prop)→Prop
 | [],s,K=>K s|o::r,s,K=>I6 P W0 G o s λs'=>Av r s' K
end
section
variable {P : Program} {W0 : World} {G : List (Nat × AVal)}
theorem Z7 {H:Hz}{r:Option ARes}{K K':AVal→Hz→Prop}(hk:∀v H',K v H'→K' v H')(h:Ia P W0 H r K):Ia P W0 H r K':=by unfold Ia at h⊢;grind
theorem A95 {s:St}{dst:Option Nat}{v:AVal}{H:Hz}{K K':St→Prop}(hk:∀s,K s→K' s)(h:Rx s dst v H K):Rx s dst v H K':=by unfold Rx at h⊢;grind
theorem A4b {ops:Array Oper}{o:Oper}{s:St}{K K':St→Prop}(hk:∀s,K s→K' s)(h:Iu P W0 G ops o s K):Iu P W0 G ops o s K':=by grind[Iu,Z7,A95]
theorem S9 {ops:Array Oper}{o:Oper}{a:AOper}(hc:Be P ops o=some a){s:St}{K:St→Prop}(h:I6 P W0 G a s K):Iu P W0 G ops o s K:=by
 unfold Be at hc;cases hg:D7 ops o.guard with
 |none=>rw[hg]at hc;cases hc
 |some g=>
  rw[hg]at hc;simp only at hc;cases hop:Ar P o.op with
  |none=>rw[hop]at hc;cases hc
  |some op=>
   rw[hop]at hc;injection hc with hc;subst hc;unfold Iu;cases hgd:o.guard with
   |none=>rw[hgd]at hg;simp only[D7,iS]at hg;subst hg;simp only[Cj,hop];exact h
   |some gw=>
    obtain⟨j,want⟩:=gw;rw[hgd]at hg;simp only[D7]at hg;cases hd:(ops[j]?).bind (·.dst)with
    |none=>rw[hd]at hg;cases hg
    |some d=>
     rw[hd]at hg;simp only[iS]at hg;subst hg;simp only[Cj,hd];simp only[I6]at h;split at h;·grind
     ·grind
     ·exact h.elim
theorem A3b {ops:Array Oper}:∀{l:List Oper}{az:List AOper},Bc P ops l=some az→∀{s:St}{K:St→Prop},Av P W0 G az s K→O5 P W0 G ops l s K
 | [],az,hc,s,K,h=>by simp only[Bc,iS]at hc;subst hc;exact h
 |o::r,az,hc,s,K,h=>by
  simp only[Bc]at hc;cases ho:Be P ops o with
  |none=>rw[ho]at hc;cases hc
  |some a=>
   rw[ho]at hc;simp only at hc;cases hr:Bc P ops r with
   |none=>rw[hr]at hc;cases hc
   |some l=>rw[hr]at hc;injection hc with hc;subst hc;simp only[Av]at h;simp only[O5];exact A4b (λs' h'=>A3b hr h')<|S9 ho h
end
def ExA (P:Program)(W0:World)(a:ACode)(s:St)(K:Ai→St→Prop):Prop:=∀c,Bq P c=some a→Ex P W0 c s K
structure Gr (P:Program)(W0:World)(G:List<|Nat×AVal):Prop where
 g:GOK W0 G
 mixed:P.follows .mixedOrders=true
section
variable {P : Program} {W0 : World} {G : List (Nat × AVal)} {s : St} {K : Ai → St → Prop}
theorem ExA.mono {a:ACode}{K':Ai→St→Prop}(h:ExA P W0 a s K)(hk:∀e s',K e s'→K' e s'):ExA P W0 a s K':=λc hc=>(h c hc).mono hk
theorem Zl {id:Nat}{ops:Array Oper}{d:Bool}{a:ACode}(h:Bq P (.region id ops d)=some a):a= .stuck∨∃l,Bc P ops ops.toList=some l∧((d=false∧a= .ops l)∨(d=true∧J1 P ops (Ep P ops.toList)=true∧(a= .draw l (Yk<|Ep P ops.toList)∨a= .drawC l (Ep P ops.toList)))):=by simp only[Bq]at h;grind
theorem ExA.skip (h:K .normal s):ExA P W0 .skip s K:=λc hc=>by cases c<;>grind[Ex.skip,Bq]
theorem Sj {c:Code}{l:List AOper}(h:Bq P c=some (.ops l)):∃id ops,c= .region id ops false∧Bc P ops ops.toList=some l:=by cases c<;>grind[Bq]
theorem Qk {c:Code}{l:List AOper}{b:Bool}(h:Bq P c=some (.draw l b)):∃id ops,c= .region id ops true∧Bc P ops ops.toList=some l∧J1 P ops (Ep P ops.toList)=true∧Yk (Ep P ops.toList)=b:=by cases c<;>grind[Bq]
theorem U9 {c:Code}{l:List AOper}{p:SP}(h:Bq P c=some (.drawC l p)):∃id ops,c= .region id ops true∧Bc P ops ops.toList=some l∧J1 P ops p=true:=by cases c<;>grind[Bq]
theorem Pi {c:Code}{x y:ACode}(h:Bq P c=some (.seq x y)):∃a b,c= .seq a b∧Bq P a=some x∧Bq P b=some y:=by cases c<;>grind[Bq]
theorem M8 {c:Code}{o:AOpd}{x y:ACode}(h:Bq P c=some (.cond o x y)):∃p a b,c= .cond p a b∧Aj p=some o∧Bq P a=some x∧Bq P b=some y:=by
 cases c with
 |region id ops d=>rcases Zl h with h2|⟨l,_,⟨_,h2⟩|⟨_,_,h2|h2⟩⟩<;>cases h2
 |cond p a b=>
  simp only[Bq]at h;split at h;·grind
  ·cases h
 |_=>simp only[Bq,reduceCtorEq]at h<;>(repeat' (split at h))<;>cases h
theorem Oi {c:Code}{id:Nat}{x:ACode}(h:Bq P c=some (.block id x)):∃a,c= .block id a∧Bq P a=some x:=by cases c<;>grind[Bq]
theorem G8 {c:Code}{x:ACode}(h:Bq P c=some (.loop x)):∃a,c= .loop a∧Bq P a=some x:=by cases c<;>grind[Bq]
theorem A4k {c:Code}{id:Nat}(h:Bq P c=some (.exit id)):c= .exit id:=by cases c<;>grind[Bq]
theorem A7r {c:Code}(h:Bq P c=some .ret):c= .ret:=by cases c<;>grind[Bq]
theorem A3h {c:Code}{x:ACode}(h:Bq P c=some (.scope x)):∃a,c= .scope a∧Bq P a=some x:=by cases c<;>grind[Bq]
theorem A59 {c:Code}(h:Bq P c=some .mark):∃l,c= .label l:=by cases c<;>grind[Bq]
theorem ExA.ops (hg:Gr P W0 G){l:List AOper}(h:Av P W0 G l s<|K .normal):ExA P W0 (.ops l) s K:=λc hc=>by obtain⟨id,ops,rfl,h1⟩:=Sj hc;exact Ex.region hg.g<|A3b h1 h
theorem ExA.seq {x y:ACode}(h:ExA P W0 x s λe s'=>e.then s' (λs'=>ExA P W0 y s' K) K):ExA P W0 (.seq x y) s K:=λc hc=>by obtain⟨a,b,rfl,ha,hb⟩:=Pi hc;refine Ex.seq<|(h a ha).mono λe s' hk=>?_;cases e with|normal=>exact hk b hb|exit id=>exact hk|ret=>exact hk
theorem ExA.cond (hg:Gr P W0 G){c:AOpd}{x y:ACode}{b:Bool}(hv:ev G s c=some (.bool b))(ht:b=true→ExA P W0 x s K)(hf:b=false→ExA P W0 y s K):ExA P W0 (.cond c x y) s K:=λk hk=>by obtain⟨p,a,d,rfl,hp,ha,hd⟩:=M8 hk;exact Ex.cond hg.g hp hv (λh=>ht h a ha)<|λh=>hf h d hd
theorem ExA.block {id:Nat}{x:ACode}(h:ExA P W0 x s<|Ai.inBlock id K):ExA P W0 (.block id x) s K:=λc hc=>by obtain⟨a,rfl,ha⟩:=Oi hc;exact Ex.block<|h a ha
theorem ExA.exit {id:Nat}(h:K (.exit id) s):ExA P W0 (.exit id) s K:=λc hc=>by rw[A4k hc];exact Ex.exit h
theorem ExA.ret (h:K .ret s):ExA P W0 .ret s K:=λc hc=>by grind[A7r,Ex.ret]
end
abbrev yV (d:Nat)(x:AOp):AOper:=⟨some d,none,x⟩
abbrev yM (d t:Nat):AOper:=⟨some d,none,.move<|.tmp t⟩
abbrev yT (d g:Nat)(x:AOp):AOper:=⟨some d,some (g,true),x⟩
abbrev yF (d g:Nat)(x:AOp):AOper:=⟨some d,some (g,false),x⟩
abbrev yN (x:AOp):AOper:=⟨none,none,x⟩
instance (n:Nat):OfNat AOpd n:=⟨.tmp n⟩
abbrev kF (f:Nat)(x:List AOpd):AOp:=.call (.val<|.fn f [] []) x
abbrev vI (n:Int):AOpd:=.val<|.int .i64 n
abbrev sQ (x:List AOper)(y:ACode):ACode:=.seq (.ops x) y
abbrev z0L :List AVal:=[.bool false,.int .i8 0,.int .i8 0,.int .i8 0,.int .i8 0,.int .i8 0,.int .i8 0,.int .i8 0,.int .i8 0,.int .i8 0,.int .i8 0,.int .i8 0,.int .i8 0,.int .i8 0,.int .i8 0,.int .i8 0,.int .i8 0,.int .i8 0,.int .i8 0,.int .i8 0,.int .i8 0,.int .i8 0,.int .i8 0,.int .i8 0,.int .i8 0,.int .i8 0,.int .i8 0,.int .i8 0,.int .i8 0,.int .i8 0,.int .i8 0,.int .i8 0,.int .i8 0,.int .i8 0,.int .i8 0,.int .i8 0,.int .i8 0,.int .i8 0,.int .i8 0,.int .i8 0,.int .i8 0,.int .i8 0,.int .i8 0,.int .i8 0,.int .i8 0,.int .i8 0,.int .i8 0,.int .i8 0,.int .i8 0,.int .i8 0,.int .i8 0,.int .i8 0,.int .i8 0,.int .i8 0,.int .i8 0,.int .i8 0,.int .i8 0,.int .i8 0,.int .i8 0,.int .i8 0,.int .i8 0,.int .i8 0,.int .i8 0,.int .i8 0,.int .i8 0,.int .i8 0,.int .i8 0,.int .i8 0,.int .i8 0,.int .i8 0,.int .i8 0,.int .i8 0,.int .i8 0,.int .i8 0,.int .i8 0,.int .i8 0,.int .i8 0,.int .i8 0,.int .i8 0,.int .i8 0,.int .i8 0,.int .i8 0,.int .i8 0,.int .i8 0,.int .i8 0,.int .i8 0,.int .i8 0,.int .i8 0,.int .i8 0,.int .i8 0,.int .i8 0,.int .i8 0,.int .i8 0,.int .i8 0,.int .i8 0,.int .i8 0,.int .i8 0,.bool false]
abbrev z1L :List AVal:=[.bool false,.int .i8 0,.int .i8 0,.int .i8 0,.int .i8 0,.int .i8 0,.int .i8 0,.int .i8 0,.int .i8 0,.int .i8 0,.int .i8 0,.int .i8 0,.int .i8 0,.int .i8 0,.int .i8 0,.int .i8 0,.int .i8 0,.int .i8 0,.int .i8 0,.int .i8 0,.int .i8 0,.int .i8 0,.int .i8 0,.int .i8 0,.int .i8 0,.int .i8 0,.int .i8 0,.int .i8 0,.int .i8 0,.int .i8 0,.int .i8 0,.int .i8 0,.int .i8 0,.int .i8 0,.int .i8 0,.int .i8 0,.int .i8 0,.int .i8 0,.int .i8 0,.int .i8 0,.int .i8 0,.int .i8 0,.int .i8 0,.int .i8 0,.int .i8 0,.int .i8 0,.int .i8 0,.int .i8 0,.int .i8 0,.int .i8 4,.int .i8 0,.int .i8 0,.int .i8 0,.int .i8 0,.int .i8 0,.int .i8 0,.int .i8 0,.int .i8 0,.int .i8 0,.int .i8 0,.int .i8 0,.int .i8 0,.int .i8 0,.int .i8 0,.int .i8 0,.int .i8 0,.int .i8 0,.int .i8 0,.int .i8 0,.int .i8 0,.int .i8 0,.int .i8 0,.int .i8 0,.int .i8 0,.int .i8 0,.int .i8 0,.int .i8 0,.int .i8 0,.int .i8 0,.int .i8 0,.int .i8 0,.int .i8 0,.int .i8 0,.int .i8 0,.int .i8 0,.int .i8 0,.int .i8 0,.int .i8 0,.int .i8 0,.int .i8 0,.int .i8 0,.int .i8 0,.int .i8 0,.int .i8 0,.int .i8 0,.int .i8 0,.int .i8 0,.bool false]
abbrev z2L :List AVal:=[.bool false,.int .i8 0,.int .i8 0,.int .i8 0,.int .i8 0,.int .i8 0,.int .i8 0,.int .i8 0,.int .i8 0,.int .i8 0,.int .i8 0,.int .i8 0,.int .i8 0,.int .i8 0,.int .i8 0,.int .i8 0,.int .i8 0,.int .i8 0,.int .i8 0,.int .i8 0,.int .i8 0,.int .i8 0,.int .i8 0,.int .i8 0,.int .i8 0,.int .i8 0,.int .i8 0,.int .i8 0,.int .i8 0,.int .i8 0,.int .i8 0,.int .i8 0,.int .i8 0,.int .i8 0,.int .i8 0,.int .i8 0,.int .i8 0,.int .i8 0,.int .i8 0,.int .i8 0,.int .i8 0,.int .i8 0,.int .i8 0,.int .i8 0,.int .i8 0,.int .i8 0,.int .i8 0,.int .i8 0,.int .i8 0,.int .i8 3,.int .i8 0,.int .i8 0,.int .i8 0,.int .i8 0,.int .i8 0,.int .i8 0,.int .i8 0,.int .i8 0,.int .i8 0,.int .i8 0,.int .i8 0,.int .i8 0,.int .i8 0,.int .i8 0,.int .i8 0,.int .i8 0,.int .i8 0,.int .i8 0,.int .i8 0,.int .i8 0,.int .i8 0,.int .i8 0,.int .i8 0,.int .i8 0,.int .i8 0,.int .i8 0,.int .i8 0,.int .i8 0,.int .i8 0,.int .i8 0,.int .i8 0,.int .i8 0,.int .i8 0,.int .i8 0,.int .i8 0,.int .i8 0,.int .i8 0,.int .i8 0,.int .i8 0,.int .i8 0,.int .i8 0,.int .i8 0,.int .i8 0,.int .i8 0,.int .i8 0,.int .i8 0,.int .i8 0,.bool false]
abbrev z3L :List AVal:=[.bool false,.int .i8 0,.int .i8 0,.int .i8 0,.int .i8 0,.int .i8 0,.int .i8 0,.int .i8 0,.int .i8 0,.int .i8 0,.int .i8 0,.int .i8 0,.int .i8 0,.int .i8 0,.int .i8 0,.int .i8 0,.int .i8 0,.int .i8 0,.int .i8 0,.int .i8 0,.int .i8 0,.int .i8 0,.int .i8 0,.int .i8 0,.int .i8 0,.int .i8 0,.int .i8 0,.int .i8 0,.int .i8 0,.int .i8 0,.int .i8 0,.int .i8 0,.int .i8 0,.int .i8 0,.int .i8 0,.int .i8 0,.int .i8 0,.int .i8 0,.int .i8 0,.int .i8 0,.int .i8 0,.int .i8 0,.int .i8 0,.int .i8 0,.int .i8 0,.int .i8 0,.int .i8 0,.int .i8 0,.int .i8 0,.int .i8 2,.int .i8 0,.int .i8 0,.int .i8 0,.int .i8 0,.int .i8 0,.int .i8 0,.int .i8 0,.int .i8 0,.int .i8 0,.int .i8 0,.int .i8 0,.int .i8 0,.int .i8 0,.int .i8 0,.int .i8 0,.int .i8 0,.int .i8 0,.int .i8 0,.int .i8 0,.int .i8 0,.int .i8 0,.int .i8 0,.int .i8 0,.int .i8 0,.int .i8 0,.int .i8 0,.int .i8 0,.int .i8 0,.int .i8 0,.int .i8 0,.int .i8 0,.int .i8 0,.int .i8 0,.int .i8 0,.int .i8 0,.int .i8 0,.int .i8 0,.int .i8 0,.int .i8 0,.int .i8 0,.int .i8 0,.int .i8 0,.int .i8 0,.int .i8 0,.int .i8 0,.int .i8 0,.int .i8 0,.bool false]
abbrev z4L :List AVal:=[.bool false,.int .i8 0,.int .i8 0,.int .i8 0,.int .i8 0,.int .i8 0,.int .i8 0,.int .i8 0,.int .i8 0,.int .i8 0,.int .i8 0,.int .i8 0,.int .i8 0,.int .i8 0,.int .i8 0,.int .i8 0,.int .i8 0,.int .i8 0,.int .i8 0,.int .i8 0,.int .i8 0,.int .i8 0,.int .i8 0,.int .i8 0,.int .i8 0,.int .i8 0,.int .i8 0,.int .i8 0,.int .i8 0,.int .i8 0,.int .i8 0,.int .i8 0,.int .i8 0,.int .i8 0,.int .i8 0,.int .i8 0,.int .i8 0,.int .i8 0,.int .i8 0,.int .i8 0,.int .i8 0,.int .i8 0,.int .i8 0,.int .i8 0,.int .i8 0,.int .i8 0,.int .i8 0,.int .i8 0,.int .i8 0,.int .i8 1,.int .i8 0,.int .i8 0,.int .i8 0,.int .i8 0,.int .i8 0,.int .i8 0,.int .i8 0,.int .i8 0,.int .i8 0,.int .i8 0,.int .i8 0,.int .i8 0,.int .i8 0,.int .i8 0,.int .i8 0,.int .i8 0,.int .i8 0,.int .i8 0,.int .i8 0,.int .i8 0,.int .i8 0,.int .i8 0,.int .i8 0,.int .i8 0,.int .i8 0,.int .i8 0,.int .i8 0,.int .i8 0,.int .i8 0,.int .i8 0,.int .i8 0,.int .i8 0,.int .i8 0,.int .i8 0,.int .i8 0,.int .i8 0,.int .i8 0,.int .i8 0,.int .i8 0,.int .i8 0,.int .i8 0,.int .i8 0,.int .i8 0,.int .i8 0,.int .i8 0,.int .i8 0,.int .i8 0,.bool false]
abbrev z5L :List AVal:=[.int .i64 0,.int .i64 0]
abbrev z6L :List AVal:=[.str [],.int .i64 0,.int .i64 0,.bool false,.bool false,.bool false]
abbrev z7L :List AVal:=[.int .i64 0,.int .i64 0,.int .i64 0]
abbrev z8L :List AVal:=[.int .i64 0,.int .i64 0,.int .i64 0,.int .i64 0,.int .i64 0,.str [],.int .i64 0,.bool false]
abbrev z9L :List AVal:=[.int .i64 0,.int .i64 0,.int .i64 0,.int .i64 0,.int .i64 0,.int .i64 0,.int .i64 0,.int .i64 0,.int .i64 0,.int .i64 0,.int .i64 0,.int .i64 0,.int .i64 0,.str [],.bool false]
abbrev Tu :List AVal:=[.nilSl,.nilSl,.nilSl,.nilSl]
abbrev A9l :List AVal:=[.int .i64 4,.int .i64 0]
abbrev Aas :List AVal:=[.int .i64 3,.int .i64 0]
abbrev A9f :List AVal:=[.int .i64 2,.int .i64 0]
abbrev Aca :List AVal:=[.int .i64 1,.int .i64 0]
inductive RV where
 |tmp (t:Nat)|cell (t n:Nat) (agg:Bool)
def Aaz (P:Program):ResultVar→Option RV
 |.tmp t=>some<|.tmp t
 |.cell a t=>match On P t with
  |some (n,agg)=>some (.cell a n agg)|none=>none
def P7 (P:Program):List ResultVar→Option (List RV)
 | []=>some []
 |r::rs=>match Aaz P r with
  |some x=>match P7 P rs with
   |some l=>some (x::l)|none=>none
  |none=>none
def A6q (s:St):RV→Option AVal
 |.tmp t=>s.env.get t
 |.cell a n agg=>match s.env.get a with
  |some p=>J4 n agg s.H p|none=>none
def Ii (s:St):List RV→Option (List AVal)
 | []=>some []
 |r::rs=>match A6q s r with
  |some v=>match Ii s rs with
   |some vs=>some (v::vs)|none=>none
  |none=>none
theorem L9 {P:Program}{s:St}:∀{rs:List ResultVar}{l:List RV}{vs:List AVal},P7 P rs=some l→Ii s l=some vs→Dx P s rs=some vs
 | [],l,vs,hc,h=>by simp only[P7,iS]at hc;subst hc;exact h
 |r::rs,l,vs,hc,h=>by
  simp only[P7]at hc;split at hc
  ·rename_i x hx;split at hc
   ·rename_i l' hl;injection hc with hc;subst hc;simp only[Ii]at h;split at h
    ·rename_i v hv;split at h
     ·rename_i vs' hvs;injection h with h;subst h;have hr:Ri P s r=some v:=by cases r<;>grind[Aaz,A6q,Ri]
      simp only[Dx,hr,L9 hl hvs]
     ·cases h
    ·cases h
   ·cases hc
  ·cases hc
structure AFn where
 code:ACode
 res:List RV
 n:Nat
def Gw (P:Program)(f:Nat):Option AFn:=
 match P.funcs[f]? with
 |some fn=>match fn.body with
  |some c=>match Bq P c with
   |some a=>match P7 P fn.results.toList with
    |some l=>cond (fn.name== "runtime.NumGoroutine") none (some ⟨a,l,fn.ntmps⟩)|none=>none
   |none=>none
  |none=>none
 |none=>none
theorem Jp {P:Program}{f:Nat}{x:AFn}(h:Gw P f=some x):∃fn c,P.funcs[f]?=some fn∧fn.body=some c∧Bq P c=some x.code∧P7 P fn.results.toList=some x.res∧fn.name≠ "runtime.NumGoroutine" ∧fn.ntmps=x.n:=by unfold Gw at h;grind
def Ej :Nat→List AVal→List (Nat×AVal)
 |_,[]=>[]|i,v::r=>(i,v)::Ej (i+1) r
theorem Je :∀(az:List AVal) (i t:Nat),lk t (Ej i az)=if i≤t∧t<i+az.length then az[t-i]? else none
 | [],i,t=>by simp_all[Ej,lk]
 |v::r,i,t=>by
  simp only[Ej,lk,lCo];cases h:Nat.beq t i with
  |true=>have:=nBq h;subst this;rw[cond_true,if_pos Y];simp
  |false=>
   have:=Nat.ne_of_beq_eq_false h;rw[cond_false,Je r (i+1) t];by_cases h2:i+1≤t∧t<i+1+r.length;·grind
   ·grind
def Ad9 (n:Nat)(x:AVal)(Hx:Hz)(v:AVal)(H':Hz):Prop:=(x=v∧Hx=H')∨(B9 n (Hx.take n)=true∧(∃m,frz Hx n m x=some v)∧Hx.take n=H')
theorem P1 {W0:World}{F:Nat→Prop}{bs:List Nat}{H:Hz}{w:World}(hh:Ad W0 F bs H w){bs0:List Nat}{H0:Hz}{w0:World}(he:Ext bs0 H0 w0 bs H w){x v:AVal}{H':Hz}{cv:Value}(hv:Rep F bs H w x cv)
 (hl:Ad9 H0.length x H v H'):∃bs',Rep F bs' H' w v cv∧Ad W0 F bs' H' w∧Ext bs0 H0 w0 bs' H' w:=by
 rcases hl with⟨rfl,rfl⟩|⟨h1,⟨m,h2⟩,rfl⟩;·grind
 ·exact⟨bs.take H0.length,Tc hh m x cv v hv h2,hh.take h1,he.take⟩
def Iy (rs:List RV)(n:Nat)(v:AVal)(H':Hz)(e:Ai)(s:St):Prop:=(match e with|.exit _=>False|_=>True)∧∃vs,Ii s rs=some vs∧Ad9 n (C9 vs) s.H v H'
theorem A5.of_fn {P:Program}{W0:World}{f:Nat}{x:AFn}(hf:Gw P f=some x){args:List AVal}{H:Hz}{v:AVal}{H':Hz}(hl:args.length≤4094){n:Nat}(hn:args.length+(x.n-args.length)=n)
 (h:ExA P W0 x.code ⟨.al<|Ej 0 args,H,n⟩<|Iy x.res H.length v H'):A5 P W0 f args H v H':=by
 obtain⟨fn,c,h1,h2,h3,h4,h5,h6⟩:=Jp hf;refine⟨⟨fn,c,h1,h2,h5⟩,λF bs w cargs hh hr=>?_⟩;have hrs:=G7 hh hr hl fn.ntmps;have hrs':RS W0 F bs ⟨.al<|Ej 0 args,H,n⟩ {tmps:=cargs.toArray++Array.replicate (fn.ntmps-cargs.toArray.size) undef,defers:=[]} w:=
  ⟨hrs.heap,A35,λt u hu=>hrs.env t u (by
   rw[Ds args 0 .leaf t Y];have hu:lk t (Ej 0 args)=some u:=hu;rw[Je]at hu
   grind)⟩
 refine calls_of_wp h1 h2<|h c h3 F bs _ w hrs' _ λe s' bs' a' w' hk hrs hext hd=>?_;obtain⟨hne,vs,hvs,hlv⟩:=hk;obtain⟨cv,r1,r2⟩:=G5 hrs<|L9 h4 hvs;obtain⟨bs'',r3,r4,r5⟩:=P1 hrs.heap hext r2 hlv;have fin:bodyPost P fn (λe w'=>∃cv bs',e= .returned cv∧Rep F bs' H' w' v cv∧Ad W0 F bs' H' w'∧Ext bs H w bs' H' w') .ret a' w':=⟨hd,cv,r1,cv,bs'',rfl,r3,r4,r5⟩;cases e with|normal=>exact fin|ret=>exact fin|exit id=>exact hne.elim
section
variable {P : Program} {W0 : World} {G : List (Nat × AVal)} {s : St} {K : St → Prop} {r : List AOper}
theorem sGuard {dst:Option Nat}{op:AOp}{t:Nat}{want b:Bool}(h:s.env.get t=some (.bool b))(k1:b=want→Av P W0 G (⟨dst,none,op⟩::r) s K)(k2:b=(!want)→Av P W0 G (⟨dst,none,.move<|.val<|.tup []⟩::r) s K):
 Av P W0 G (⟨dst,some (t,want),op⟩::r) s K:=by
 grind[Av,I6,aop,ev,Kx,Ia]
theorem Acg {dst:Option Nat}{op:AOp}{t:Nat}{want:Bool}(h:s.env.get t=some (.tup []))(k2:Av P W0 G (⟨dst,none,.move<|.val<|.tup []⟩::r) s K):
 Av P W0 G (⟨dst,some (t,want),op⟩::r) s K:=by
 grind[Av,I6,aop,ev,Kx,Ia]
end
section
variable {P : Program} {W0 : World} {G : List (Nat × AVal)}
structure Wk (m:Nat)(s1 s2:St):Prop where
 n:s1.n=s2.n
 lo:m≤s1.H.length
 hi:s2.H.take s1.H.length=s1.H
 env:∀t v,s1.env.get t=some v→s2.env.get t=some v
 clo:s1.H.length=s2.H.length∨(B9 s1.H.length s1.H=true∧∀t v,s1.env.get t=some v→blw s1.H.length v=true)
theorem Ext.takeN {bs0:List Nat}{H0:Hz}{w0:World}{bs:List Nat}{H:Hz}{w:World}(h:Ext bs0 H0 w0 bs H w){n:Nat}(hn:H0.length≤n):Ext bs0 H0 w0 (bs.take n) (H.take n) w:=by refine⟨h.size,h.block,λk hk=>h.new k<|List.mem_of_mem_take hk,λi o ho=>?_⟩;have hi:=(List.getElem?_eq_some_iff.1 ho).1;obtain⟨o',h1,h2⟩:=h.obj i o ho;refine⟨o',by grind,?_⟩;have hbs:(bs.take n)[i]?=bs[i]?:=List.getElem?_take_of_lt Y;simp_all[Bd]
theorem RS.wk {F:Nat→Prop}{bs:List Nat}{s1 s2:St}{a:Act}{w:World}(hs:RS W0 F bs s2 a w){m:Nat}(hw:Wk m s1 s2){bs0:List Nat}{H0:Hz}{w0:World}(he:Ext bs0 H0 w0 bs s2.H w)(hm:H0.length≤m):
 ∃bs',RS W0 F bs' s1 a w∧Ext bs0 H0 w0 bs' s1.H w:=by
 rcases hw.clo with hl|⟨hb1,hb2⟩
 ·have hH:s1.H=s2.H:=by rw[←hw.hi,hl,List.take_length]
  refine⟨bs,⟨hH▸hs.heap,by rw[hs.size,hw.n],λt v hv=>?_⟩,hH▸he⟩;rw[hH];exact hs.env t v<|hw.env t v hv
 ·have hh:Ad W0 F (bs.take s1.H.length) (s2.H.take s1.H.length) w:=hs.heap.take (by rw[hw.hi];exact hb1);have he':=he.takeN (n:=s1.H.length)<|Nat.le_trans hm hw.lo;refine⟨bs.take s1.H.length,⟨by rw[hw.hi]at hh;exact hh,by rw[hs.size,hw.n],λt v hv=>?_⟩,by rw[hw.hi]at he';exact he'⟩;have:=A1b (n:=s1.H.length) v _ (hs.env t v<|hw.env t v hv)<|hb2 t v hv;rw[hw.hi]at this;exact this
theorem ExA.wk {a:ACode}{s1 s2:St}{K:Ai→St→Prop}(hn:s1.n=s2.n)(hH:s1.H=s2.H)(he:∀t v,s1.env.get t=some v→s2.env.get t=some v)(h:ExA P W0 a s1 K):ExA P W0 a s2 K:=λc hc F bs x w hs Q hq=>h c hc F bs x w ⟨hH▸hs.heap,by rw[hs.size,hn],λt v hv=>by rw[hH];exact hs.env t v<|he t v hv⟩ Q λe s' bs' a' w' h1 h2 h3 h4=>hq e s' bs' a' w' h1 h2 (by grind) h4
theorem ExA.loop {c:ACode}{σ:Type}(st:σ→St)(I:σ→Prop)(μ:σ→Nat)(i:σ){s:St}{K:Ai→St→Prop}(h0:Wk s.H.length (st i) s)(hI:I i)
 (round:∀i,I i→s.H.length≤(st i).H.length→ExA P W0 c (st i) λe s'=>e.then s' (λs'=>∃j,I j∧μ j<μ i∧Wk s.H.length (st j) s') K):ExA P W0 (.loop c) s K:=λk hk=>by
 obtain⟨k',rfl,hk'⟩:=G8 hk;intro F bs a w hs Q hq;refine Ew (σ:=σ) (λi a' w'=>∃bs',I i∧s.H.length≤(st i).H.length∧RS W0 F bs' (st i) a' w'∧Ext bs s.H w bs' (st i).H w'∧a'.defers=a.defers) μ (s:=i) ?_ ?_;·obtain⟨bs',h1,h2⟩:=hs.wk h0 (Ext.refl bs s.H w)<|Nat.le_refl _;exact⟨bs',hI,h0.lo,h1,h2,Z⟩
 ·rintro i a1 w1 ⟨bs1,hi,hlen,hrs1,hext1,hd1⟩;refine round i hi hlen k' hk' F bs1 a1 w1 hrs1 _ λe s' bs' a' w' hkk hrs hext hd=>?_;cases e with
  |normal=>obtain⟨j,hj,hlt,hw⟩:=hkk;obtain⟨bs2,h1,h2⟩:=hrs.wk hw (hext1.trans hext)<|Nat.le_refl _;exact⟨j,⟨bs2,hj,hw.lo,h1,h2,hd.trans hd1⟩,hlt⟩
  |exit id=>exact hq (.exit id) s' bs' a' w' hkk hrs (hext1.trans hext) (hd.trans hd1)|ret=>exact hq .ret s' bs' a' w' hkk hrs (hext1.trans hext)<|hd.trans hd1
theorem A58 {l:List (Nat×AVal)}{e:Env}(h:∀p∈l,e.get p.1=some p.2):∀t v,(Env.al l).get t=some v→e.get t=some v:=by
 intro t v hv;induction l with
 |nil=>cases hv
 |cons p l ih=>have hw:lk t (p::l)=some v:=hv;obtain⟨u,x⟩:=p;simp only[lk]at hw;cases hb:Nat.beq t u with|true=>rw[hb]at hw;simp only[cond_true,iS]at hw;have:=nBq hb;subst this;subst hw;exact h (t,x) Ax|false=>rw[hb]at hw;exact ih (λp hp=>h p (by simp[hp])) hw
theorem al_blw {l:List (Nat×AVal)}{m:Nat}(h:Ab m (l.map (·.2))=true):∀t v,(Env.al l).get t=some v→blw m v=true:=by
 intro t v hv;induction l with
 |nil=>cases hv
 |cons p l ih=>
  have hw:lk t (p::l)=some v:=hv;obtain⟨u,x⟩:=p;simp only[List.map_cons,Ab]at h;have h1:blw m x=true:=by grind
  have h2:Ab m (l.map (·.2))=true:=by grind
  simp only[lk]at hw;cases hb:Nat.beq t u with|true=>rw[hb]at hw;simp only[cond_true,iS]at hw;subst hw;exact h1|false=>rw[hb]at hw;exact ih h2 hw
theorem Wk.same {l:List (Nat×AVal)}{H:Hz}{n:Nat}{s:St}(hn:n=s.n)(hH:H=s.H)(h:∀p∈l,s.env.get p.1=some p.2):Wk s.H.length ⟨.al l,H,n⟩ s:=⟨hn,by grind,by grind,A58 h,.inl (by rw[hH])⟩
theorem Wk.cut {m:Nat}{l:List (Nat×AVal)}{H:Hz}{n:Nat}{s:St}(hn:n=s.n)(hm:m≤H.length)(hH:s.H.take H.length=H)(h:∀p∈l,s.env.get p.1=some p.2)(hb:B9 H.length H=true)(hl:Ab H.length (l.map (·.2))=true):Wk m ⟨.al l,H,n⟩ s:=⟨hn,hm,hH,A58 h,.inr ⟨hb,al_blw hl⟩⟩
end
instance (n:Nat):OfNat RV n:=⟨.tmp n⟩
section
variable {P : Program} {W0 : World} {G : List (Nat × AVal)} {l : List (Nat × AVal)} {H H' : Hz} {n : Nat} {K : St → Prop} {r : List AOper}
theorem Cm (h:K ⟨.al l,H,n⟩):Av P W0 G [] ⟨.al l,H,n⟩ K:=h
theorem A9 {d:Nat}{op:AOp}{v:AVal}{side:List (Int×Int)}(h:aop G ⟨.al l,H,n⟩ op=some (.val v H' side))(hd:(Nat.blt d n&&Nat.blt d 4094)=true)(hs:Ag side)(k:Av P W0 G r ⟨.al ((d,v)::l),H',n⟩ K):Av P W0 G (⟨some d,none,op⟩::r) ⟨.al l,H,n⟩ K:=by simp only[Av,I6,h];exact⟨hs,hd,k⟩
theorem Eu {op:AOp}(h:aop G ⟨.al l,H,n⟩ op=some (.skip H'))(k:Av P W0 G r ⟨.al l,H',n⟩ K):Av P W0 G (⟨none,none,op⟩::r) ⟨.al l,H,n⟩ K:=by simp only[Av,I6,h];exact k
theorem Gx {d:Nat}{op:AOp}{f:Nat}{args:List AVal}{v:AVal}(h:aop G ⟨.al l,H,n⟩ op=some (.call f args))(hd:(Nat.blt d n&&Nat.blt d 4094)=true)(hc:A5 P W0 f args H v H')(k:Av P W0 G r ⟨.al ((d,v)::l),H',n⟩ K):Av P W0 G (⟨some d,none,op⟩::r) ⟨.al l,H,n⟩ K:=by simp only[Av,I6,h];exact⟨v,H',hc,hd,k⟩
theorem Aal {dst:Option Nat}{op:AOp}{t:Nat}{want b:Bool}(h:lk t l=some (.bool b))(k1:b=want→Av P W0 G (⟨dst,none,op⟩::r) ⟨.al l,H,n⟩ K)(k2:b=(!want)→Av P W0 G (⟨dst,none,.move<|.val<|.tup []⟩::r) ⟨.al l,H,n⟩ K):
 Av P W0 G (⟨dst,some (t,want),op⟩::r) ⟨.al l,H,n⟩ K:=sGuard h k1 k2
theorem Aa2 {dst:Option Nat}{op:AOp}{t:Nat}{want:Bool}(h:lk t l=some (.tup []))(k2:Av P W0 G (⟨dst,none,.move<|.val<|.tup []⟩::r) ⟨.al l,H,n⟩ K):
 Av P W0 G (⟨dst,some (t,want),op⟩::r) ⟨.al l,H,n⟩ K:=Acg h k2
theorem A9h {d:Nat}{x:AOpd}{id pos:Nat}{s:Bz}(hx:ev G ⟨.al l,H,n⟩ x=some (.ptr id 0))(hi:H[id]?=some (.iter s pos))(hp:Nat.blt pos s.length=true)(hd:(Nat.blt d n&&Nat.blt d 4094)=true)
 (k:Av P W0 G r ⟨.al ((d,.tup [.bool true,.int .i64 (pos:Nat),.int .i32 ((K3 s pos).1:Nat)])::l),H.set id<|.iter s<|pos+(K3 s pos).2,n⟩ K):Av P W0 G (⟨some d,none,.next x⟩::r) ⟨.al l,H,n⟩ K:=by
 refine A9 (side:=[]) ?_ hd trivial k;simp only[aop,hx,Wp,hi,hp,cond_true,Nat.beq_refl]
theorem lNextNo {d:Nat}{x:AOpd}{id pos:Nat}{s:Bz}(hx:ev G ⟨.al l,H,n⟩ x=some (.ptr id 0))(hi:H[id]?=some (.iter s pos))(hp:Nat.blt pos s.length=false)(hd:(Nat.blt d n&&Nat.blt d 4094)=true)
 (k:Av P W0 G r ⟨.al ((d,.tup [.bool false])::l),H,n⟩ K):Av P W0 G (⟨some d,none,.next x⟩::r) ⟨.al l,H,n⟩ K:=by
 refine A9 (side:=[]) ?_ hd trivial k;simp_all[aop,Wp]
end
theorem A6 {rs:List RV}{n:Nat}{v:AVal}{H':Hz}{e:Ai}{s:St}{vs:List AVal}(he:(match e with|.exit _=>False|_=>True))(h1:Ii s rs=some vs)(h2:C9 vs=v)(h3:s.H=H'):Iy rs n v H' e s:=⟨he,vs,h1,.inl ⟨h2,h3⟩⟩
theorem A4 {rs:List RV}{n:Nat}{v:AVal}{H':Hz}{e:Ai}{s:St}{vs:List AVal}(he:(match e with|.exit _=>False|_=>True))(h1:Ii s rs=some vs)(h2:B9 n (s.H.take n)=true)(m:Nat)(h3:frz s.H n m (C9 vs)=some v)(h4:s.H.take n=H'):Iy rs n v H' e s:=⟨he,vs,h1,.inr ⟨h2,⟨m,h3⟩,h4⟩⟩
section
variable (P : Program) (W0 : World) (G : List (Nat × AVal))
def Bl (o:AOper)(s:St)(K:AVal→Hz→Prop):Prop:=
 match o.guard with
 |none=>Ia P W0 s.H (aop G s o.op) K
 |some (d,want)=>match s.env.get d with
  |some (.bool b)=>cond (cond b want<|not want) (Ia P W0 s.H (aop G s o.op) K) (K (.tup []) s.H)|some (.tup [])=>K (.tup []) s.H|_=>False
def Bo :List AOper→St→(St→Prop)→Prop
 | [],s,K=>K s|o::r,s,K=>Bl P W0 G o s λv H'=>H'=s.H∧Eq o.dst s.n=true∧Bo r ⟨G3 o.dst v s.env,s.H,s.n⟩ K
end
section
variable {P : Program} {W0 : World} {G : List (Nat × AVal)}
theorem A6g {H:Hz}{r:Option ARes}{K:AVal→Hz→Prop}(h:Ia P W0 H r K):∃v H',Ia P W0 H r (λv' H''=>v'=v∧H''=H')∧K v H':=by unfold Ia at h⊢;grind
theorem Rz {o:AOper}{s:St}{K:AVal→Hz→Prop}(h:Bl P W0 G o s K):∃v H',Bl P W0 G o s (λv' H''=>v'=v∧H''=H')∧K v H':=by
 unfold Bl at h⊢;split at h;·exact A6g h
 ·split at h;·rename_i b _;revert h;cases(cond b _ _:Bool)with|true=>exact A6g|false=>exact λh=>⟨_,_,⟨rfl,rfl⟩,h⟩
  all_goals grind
theorem I3 {ops:Array Oper}{o:Oper}{a:AOper}(hc:Be P ops o=some a){s:St}{K:AVal→Hz→Prop}(h:Bl P W0 G a s K):Et P W0 G ops o s K:=by
 unfold Be at hc;cases hg:D7 ops o.guard with
 |none=>rw[hg]at hc;cases hc
 |some g=>
  rw[hg]at hc;simp only at hc;cases hop:Ar P o.op with
  |none=>rw[hop]at hc;cases hc
  |some op=>
   rw[hop]at hc;injection hc with hc;subst hc;unfold Et;cases hgd:o.guard with
   |none=>rw[hgd]at hg;simp only[D7,iS]at hg;subst hg;simp only[Cj,hop];exact h
   |some gw=>
    obtain⟨j,want⟩:=gw;rw[hgd]at hg;simp only[D7]at hg;cases hd:(ops[j]?).bind (·.dst)with
    |none=>rw[hd]at hg;cases hg
    |some d=>
     rw[hd]at hg;simp only[iS]at hg;subst hg;simp only[Cj,hd];simp only[Bl]at h;split at h;·grind
     ·grind
     ·exact h.elim
theorem D9 {ops:Array Oper}{o:Oper}{a:AOper}(hc:Be P ops o=some a):a.dst=o.dst:=by grind[Be]
theorem Da {ops:Array Oper}:∀{l:List Oper}{az:List AOper},Bc P ops l=some az→az.length=l.length∧∀(j:Nat) (o:Oper),l[j]?=some o→∃a,az[j]?=some a∧Be P ops o=some a
 | [],az,hc=>by grind[Bc]
 |o::r,az,hc=>by
  simp only[Bc]at hc;cases ho:Be P ops o with
  |none=>rw[ho]at hc;cases hc
  |some a=>
   rw[ho]at hc;simp only at hc;cases hr:Bc P ops r with
   |none=>rw[hr]at hc;cases hc
   |some l=>rw[hr]at hc;injection hc with hc;subst hc;obtain⟨h1,h2⟩:=Da hr;refine⟨by simp[h1],λj o' h=>?_⟩;cases j with|zero=>simp only[List.getElem?_cons_zero,iS]at h;subst h;exact⟨a,rfl,ho⟩|succ j=>simp only[List.getElem?_cons_succ]at h⊢;exact h2 j o' h
def Gm :List AOper→List AVal→Env→Nat→Env
 |o::r,v::vs,e,j+1=>Gm r vs (G3 o.dst v e) j|_,_,e,_=>e
theorem Qr :∀{l:List AOper}{s:St}{K:St→Prop},Bo P W0 G l s K→∃vs:List AVal,vs.length=l.length∧K ⟨Gm l vs s.env l.length,s.H,s.n⟩∧
 ∀(j:Nat) (a:AOper),l[j]?=some a→∃v,vs[j]?=some v∧Bl P W0 G a ⟨Gm l vs s.env j,s.H,s.n⟩ (λv' H'=>v'=v∧H'=s.H)∧Eq a.dst s.n=true∧Gm l vs s.env (j+1)=G3 a.dst v (Gm l vs s.env j)
 | [],s,K,h=>⟨[],rfl,h,λj a h=>by simp at h⟩
 |o::r,s,K,h=>by
  simp only[Bo]at h;obtain⟨v,H',h1,h2,h3,h4⟩:=Rz h;subst h2;obtain⟨vs,k1,k2,k3⟩:=Qr h4;refine⟨v::vs,by simp[k1],k2,λj a hj=>?_⟩;cases j with
  |zero=>simp only[List.getElem?_cons_zero,iS]at hj;subst hj;refine⟨v,rfl,h1,h3,?_⟩;show Gm r vs _ 0=_;cases r<;>cases vs<;>rfl
  |succ j=>simp only[List.getElem?_cons_succ]at hj⊢;exact k3 j a hj
theorem drawQ (hm:P.follows .mixedOrders=true)(hg:GOK W0 G){id:Nat}{ops:Array Oper}{l:List AOper}(hc:Bc P ops ops.toList=some l)(hsp:J1 P ops (Ep P ops.toList)=true){s:St}{K:Ai→St→Prop}
 (h:Bo P W0 G l s<|K .normal):Ex P W0 (.region id ops true) s K:=by
 generalize Ep P ops.toList=sp at hsp;obtain⟨hcl,hcg⟩:=Da hc;obtain⟨vs,r1,r2,r3⟩:=Qr h;have hsz:l.length=ops.size:=by omega
 simp only[J1,bAt]at hsp;obtain⟨⟨⟨⟨k1,k2⟩,k3⟩,k4⟩,k5⟩:=hsp;have hN:sp.n=ops.size:=nBq k1;have hat:∀(j:Nat) (o:Oper),ops[j]?=some o→Tn P ops sp j o=true:=by grind
 have hat1:∀(j:Nat) (o:Oper),ops[j]?=some o→(∀e∈o.after,Region.binds .any e=true→e.on<j)∧sp.mask.getD j 0=O0 sp.mask o∧sp.kind.getD j 0=Do P o∧
  ∀(i:Nat) (oi:Oper) (d:Nat),ops[i]?=some oi→oi.dst=some d→(i=j∨o.dst≠some d)∧(d∈reads P ops o→sp.msk j i=true∨sp.msk i j=true):=by
  intro j o ho;have:=hat j o ho;simp only[Tn,bAt]at this;obtain⟨⟨⟨a1,a2⟩,a3⟩,a4⟩:=this;refine⟨λe he hb=>?_,nBq a2,nBq a3,λi oi d hi hd=>?_⟩;·have:=List.all_eq_true.1 a1 e (by grind);simp_all
  ·have:=List.all_eq_true.1 a4 i<|List.mem_range.2 (by grind);rw[hi]at this;simp only[Option.bind_some,hd,bAt,Bool.or_eq_true]at this;obtain⟨b1,b2⟩:=this;refine⟨?_,λhr=>?_⟩
   ·rcases b1 with b1|b1;·simp_all
    ·refine .inr λhod=>?_;simp_all[A2v]
   ·have:=List.all_eq_true.1 b2 d hr;simp_all
 have hclosed:∀σ∈sp.states,∀j∈sp.steps σ,SP.nxt σ j∈sp.states:=λσ hσ j hj=>Iw<|List.all_eq_true.1 (List.all_eq_true.1 k3 σ hσ) j hj;have hget:∀(j:Nat) (o:Oper),ops[j]?=some o→∃v,vs[j]?=some v∧Et P W0 G ops o ⟨Gm l vs s.env j,s.H,s.n⟩ (λv' H'=>v'=v∧H'=s.H)∧Eq o.dst s.n=true∧Gm l vs s.env (j+1)=G3 o.dst v (Gm l vs s.env j):=by intro j o ho;obtain⟨a,ha,hca⟩:=hcg j o (by grind);grind[D9,I3]
 let p:Plan:={v:=λj=>(vs[j]?).getD .nilIf,eff:=sp.eff,ok:=λσ=>σ∈sp.states,dn:=tb,nxt:=SP.nxt,fin:=sp.fin,Hs:=λ_=>s.H,mask:=sp.msk,env:=Gm l vs s.env};have hp:Kv P W0 G ops s p:=by
  refine⟨λj o ho=>(hat1 j o ho).1,λj o i ho hm=>?_,λi j oi oj t hi hj h1 h2=>?_,λj oj t hj ht i oi hi hti=>((hat1 j oj hj).2.2.2 i oi t hi hti).2 ht,?_,λi o ho=>?_,Iw k2,λi _ _=>Nat.zero_testBit i,rfl,λj o ho hef σ hσ hm=>?_,λj o ho hef σ hσ hdn hm=>?_,λσ hσ hall=>rfl,λj o ho=>?_⟩;·have h2:=(hat1 j o ho).2.1;have hm':tb (sp.mask.getD j 0) i=true:=hm;rw[h2]at hm';exact Pm hm'
  ·grind
  ·show Gm l vs s.env 0=s.env;cases l<;>cases vs<;>rfl
  ·grind
  ·grind
  ·obtain⟨v,b1,b2,b3,b4⟩:=hget j o ho;have hmay:sp.mayB σ j=true:=(Xb (p:=sp) hN).2 hm;grind[SP.steps,Zn]
  grind
 grind[Ex.draw]
theorem ExA.draw (hg:Gr P W0 G){l:List AOper}{b:Bool}{s:St}{K:Ai→St→Prop}(h:Bo P W0 G l s<|K .normal):ExA P W0 (.draw l b) s K:=λc hc=>by obtain⟨id,ops,rfl,h1,h2,_⟩:=Qk hc;exact drawQ hg.mixed hg.g h1 h2 h
end
section
variable {P : Program} {W0 : World} {G : List (Nat × AVal)} {l : List (Nat × AVal)} {H : Hz} {n : Nat} {K : St → Prop} {r : List AOper}
theorem Dl (h:K ⟨.al l,H,n⟩):Bo P W0 G [] ⟨.al l,H,n⟩ K:=h
theorem Ak {d:Nat}{op:AOp}{v:AVal}{side:List (Int×Int)}(h:aop G ⟨.al l,H,n⟩ op=some (.val v H side))(hd:(Nat.blt d n&&Nat.blt d 4094)=true)(hs:Ag side)(k:Bo P W0 G r ⟨.al ((d,v)::l),H,n⟩ K):Bo P W0 G (⟨some d,none,op⟩::r) ⟨.al l,H,n⟩ K:=by simp only[Bo,Bl,h];exact⟨hs,rfl,hd,k⟩
theorem By {d:Nat}{op:AOp}{f:Nat}{args:List AVal}{v:AVal}(h:aop G ⟨.al l,H,n⟩ op=some (.call f args))(hd:(Nat.blt d n&&Nat.blt d 4094)=true)(hc:A5 P W0 f args H v H)(k:Bo P W0 G r ⟨.al ((d,v)::l),H,n⟩ K):Bo P W0 G (⟨some d,none,op⟩::r) ⟨.al l,H,n⟩ K:=by simp only[Bo,Bl,h];exact⟨v,H,hc,rfl,hd,k⟩
theorem Acn {dst:Option Nat}{op:AOp}{t:Nat}{want b:Bool}(h:lk t l=some (.bool b))(k1:b=want→Bo P W0 G (⟨dst,none,op⟩::r) ⟨.al l,H,n⟩ K)(k2:b=(!want)→Bo P W0 G (⟨dst,none,.move<|.val<|.tup []⟩::r) ⟨.al l,H,n⟩ K):
 Bo P W0 G (⟨dst,some (t,want),op⟩::r) ⟨.al l,H,n⟩ K:=by
 have h':(Env.al l).get t=some (.bool b):=h;grind[Bo,Bl,aop,ev,Kx,Ia]
end
def F2 {α:Type}:List Nat→List α→List α→List α
 |i::is,o::os,l=>F2 is os (l.set i o)|_,_,l=>l
theorem Gu {α:Type}:∀(is:List Nat) (os l:List α),(F2 is os l).length=l.length
 | [],_,_=>rfl|_::_,[],_=>rfl|i::is,o::os,l=>by simp only[F2];rw[Gu];simp
theorem If {α:Type}:∀(is:List Nat) (os l:List α) (i:Nat),i∉is→(F2 is os l)[i]?=l[i]?
 | [],_,_,_,_=>rfl|_::_,[],_,_,_=>rfl|k::is,o::os,l,i,h=>by simp only[List.mem_cons,not_or]at h;simp only[F2];rw[If is os _ i h.2,List.getElem?_set_ne<|λe=>h.1 e.symm]
theorem Ic {α:Type}:∀(is:List Nat) (os l:List α) (j i:Nat) (o:α),is.Nodup→is[j]?=some i→os[j]?=some o→i<l.length→(F2 is os l)[i]?=some o
 | [],_,_,_,_,_,_,h,_,_=>Qz|_::_,[],_,_,_,_,_,_,h,_=>Qz|k::is,p::os,l,0,i,o,hn,h1,h2,hl=>by grind[F2,If]|k::is,p::os,l,j+1,i,o,hn,h1,h2,hl=>by simp only[List.getElem?_cons_succ]at h1 h2;simp only[F2];exact Ic is os _ j i o (List.nodup_cons.1 hn).2 h1 h2 (by grind)
mutual
def ren (ρ : Nat → Nat) : AVal → AVal
  | .agg cs => .agg (Gn ρ cs)
  | .tup cs => .tup (Gn ρ cs)
  | .row k es => .row k (Gn ρ es)
  | .hsl k id off len cap => .hsl k (ρ id) off len cap
  | .ptr id off => .ptr (ρ id) off
  | .optr id off len => .optr (ρ id) off len
  | .eptr e off => .eptr (ren ρ e) off
  | .fn f a c => .fn f (Gn ρ a) (Gn ρ c)
  | .iface t x => .iface t (ren ρ x)
  | .bool b => .bool b
  | .int k n => .int k n
  | .str s => .str s
  | .nilSl => .nilSl
  | .emp => .emp
  | .nilPtr => .nilPtr
  | .nilFn => .nilFn
  | .nilMp => .nilMp
  | .nilIf => .nilIf
  | .mref id => .mref (ρ id)
def Gn (ρ : Nat → Nat) : List AVal → List AVal
  | [] => []
  | v :: r => ren ρ v :: Gn ρ r
end
theorem Dc (ρ:Nat→Nat):∀l,(Gn ρ l).length=l.length
 | []=>rfl|_::r=>by simp[Gn,Dc ρ r]
def I2 (ρ:Nat→Nat):HObj→HObj
 |.cells T cs op=>.cells T (Gn ρ cs) op|.iter s p=>.iter s p|.mp es=>.mp es|.dead=>.dead
theorem O2 {a b:Bool}(h:cond a b false=true):a=true∧b=true:=by grind
mutual
theorem Jt {ρ : Nat → Nat} : ∀ (a : AVal), blw 0 a = true → ren ρ a = a
  | .agg cs, h => by simp only [ren]; rw [Cd cs h]
  | .tup cs, h => by simp only [ren]; rw [Cd cs h]
  | .row k es, h => by simp only [ren]; rw [Cd es h]
  | .hsl _ _ _ _ _, h => A69
  | .ptr _ _, h => A69
  | .optr _ _ _, h => A69
  | .mref _, h => A69
  | .eptr e off, h => by simp only [ren]; rw [Jt e h]
  | .fn f a c, h => by
    obtain ⟨h1, h2⟩ := O2 h
    simp only [ren]; rw [Cd a h1, Cd c h2]
  | .iface t x, h => by simp only [ren]; rw [Jt x h]
  | .bool _, _ => rfl
  | .int _ _, _ => rfl
  | .str _, _ => rfl
  | .nilSl, _ => rfl
  | .emp, _ => rfl
  | .nilPtr, _ => rfl
  | .nilFn, _ => rfl
  | .nilMp, _ => rfl
  | .nilIf, _ => rfl
theorem Cd {ρ : Nat → Nat} : ∀ (l : List AVal), Ab 0 l = true → Gn ρ l = l
  | [], _ => rfl
  | v :: r, h => by
    obtain ⟨h1, h2⟩ := O2 h
    simp only [Gn]; rw [Jt v h1, Cd r h2]
end
structure Sel (sel:List Nat)(m:Nat)(H0 H:Hz)(ρ:Nat→Nat):Prop where
 nd:sel.Nodup
 len:sel.length=m
 len0:H0.length=m
 rho:∀j,j<m→sel[j]?=some (ρ j)
 lt:∀i∈sel,i<H.length
 get:∀j o,H0[j]?=some o→H[ρ j]?=some (I2 ρ o)
section
variable {F F' : Nat → Prop} {bs bs0 : List Nat} {H H0 : Hz} {w : World} {ρ : Nat → Nat} {m : Nat}
theorem A1a {a b:Nat}(h:Nat.blt a b=true):a<b:=by simp_all
structure A7l (F F':Nat→Prop)(bs bs0:List Nat)(H H0:Hz)(ρ:Nat→Nat)(m:Nat):Prop where
 get:∀j,j<m→∃o,H0[j]?=some o∧H[ρ j]?=some (I2 ρ o)
 blk:∀j,j<m→bs0[j]?=bs[ρ j]?
 sub:∀b,b∈bs0→b∈bs
 forb:∀b,F' b→F b∨b∈bs
theorem I7.down (h:A7l F F' bs bs0 H H0 ρ m){a:Option Addr}{vs:List Value}{cap:Nat}(hr:I7 F bs w a vs cap):I7 F' bs0 w a vs cap:=by
 cases a with
 |none=>exact hr
 |some a=>
  obtain⟨h1,h2,h3⟩:=hr;refine⟨h1,h2,λj u hj=>?_⟩;obtain⟨⟨hn,hnF⟩,hc⟩:=h3 j u hj;refine⟨⟨λhm=>hn<|h.sub _ hm,λhf=>?_⟩,hc⟩;rcases h.forb _ hf with h'|h';·exact hnF h'
  ·exact hn h'
mutual
theorem Rep.down (h : A7l F F' bs bs0 H H0 ρ m) : ∀ (a : AVal) (v : Value), blw m a = true → Rep F bs H w (ren ρ a) v → Rep F' bs0 H0 w a v
  | .agg cs, v, hb, hr => bY104
  | .tup cs, v, hb, hr => bY104
  | .row k es, v, hb, hr => by
    simp only [ren, Rep] at hr ⊢
    obtain ⟨a, cap, vs, h1, h2, h3, h4⟩ := hr
    exact ⟨a, cap, vs, by rw [h1, Dc], Aa.down h es vs hb h2, h3, h4.down h⟩
  | .hsl k id off len cap, v, hb, hr => by
    simp only [ren, Rep] at hr ⊢
    refine ⟨hr.1, ?_⟩
    have hid := A1a hb
    obtain ⟨o, ho, ho'⟩ := h.get id hid
    have h2 := hr.2
    unfold Ce at h2 ⊢
    rw [ho'] at h2
    rw [ho]
    cases o with
    | dead => trivial
    | iter s p => exact h2
    | mp es => exact h2
    | cells T cs op =>
      simp only [I2, Dc] at h2
      obtain ⟨q1, q2⟩ := h2
      refine ⟨q1, fun hop => ?_⟩
      obtain ⟨b, c, r1, r2⟩ := q2 hop
      exact ⟨b, c, A1s, r2⟩
  | .ptr id off, v, hb, hr => by
    simp only [ren, Rep] at hr ⊢
    refine ⟨hr.1, ?_⟩
    have hid := A1a hb
    obtain ⟨o, ho, ho'⟩ := h.get id hid
    have h2 := hr.2
    unfold Ey at h2 ⊢
    rw [ho'] at h2
    rw [ho]
    cases o with
    | dead => trivial
    | iter s p => obtain ⟨b, r1, r2⟩ := h2; exact ⟨b, A1s, r2⟩
    | mp es => exact h2
    | cells T cs op =>
      cases op with
      | false => obtain ⟨b, r1, r2⟩ := h2; exact ⟨b, A1s, r2⟩
      | true => exact h2
  | .mref id, v, hb, hr => by
    simp only [ren, Rep] at hr ⊢
    refine ⟨hr.1, ?_⟩
    have hid := A1a hb
    obtain ⟨o, ho, ho'⟩ := h.get id hid
    have h2 := hr.2
    unfold H5 at h2 ⊢
    rw [ho'] at h2
    rw [ho]
    cases o with
    | dead => trivial
    | iter s p => exact h2
    | cells T cs op => exact h2
    | mp es => obtain ⟨b, r1, r2⟩ := h2; exact ⟨b, A1s, r2⟩
  | .optr id off len, v, hb, hr => by
    simp only [ren, Rep] at hr ⊢
    refine ⟨hr.1, ?_⟩
    have hid := A1a hb
    obtain ⟨o, ho, ho'⟩ := h.get id hid
    have h2 := hr.2
    unfold Fq at h2 ⊢
    rw [ho'] at h2
    rw [ho]
    cases o with
    | dead => trivial
    | iter s p => exact h2
    | mp es => exact h2
    | cells T cs op =>
      cases op with
      | true =>
        simp only [I2, Dc] at h2
        refine ⟨h2.1, fun hl => ?_⟩
        obtain ⟨b, r1, r2⟩ := h2.2 hl
        exact ⟨b, A1s, r2⟩
      | false => exact h2
  | .eptr e off, v, hb, hr => by
    simp only [ren, Rep] at hr ⊢
    obtain ⟨b, base, u, h1, h2, h3, h4, h5⟩ := hr
    refine ⟨b, base, u, h1, Rep.down h e u hb h2, ⟨fun hm => h3.1 (h.sub _ hm), fun hf => ?_⟩, h4, h5⟩
    rcases h.forb _ hf with h' | h'
    · exact h3.2 h'
    · exact h3.1 h'
  | .fn f a c, v, hb, hr => by
    simp only [ren, Rep] at hr ⊢
    obtain ⟨h1, h2⟩ := O2 hb
    obtain ⟨fs, cs, r1, r2, r3⟩ := hr
    exact ⟨fs, cs, r1, Aa.down h a fs h1 r2, Aa.down h c cs h2 r3⟩
  | .iface t x, v, hb, hr => by
    simp only [ren, Rep] at hr ⊢
    obtain ⟨u, h1, h2⟩ := hr
    exact ⟨u, h1, Rep.down h x u hb h2⟩
  | .bool _, v, _, hr => Nw
  | .int _ _, v, _, hr => Nw
  | .str _, v, _, hr => Nw
  | .nilSl, v, _, hr => Nw
  | .emp, v, _, hr => Nw
  | .nilPtr, v, _, hr => Nw
  | .nilFn, v, _, hr => Nw
  | .nilMp, v, _, hr => Nw
  | .nilIf, v, _, hr => Nw
theorem Aa.down (h : A7l F F' bs bs0 H H0 ρ m) : ∀ (az : List AVal) (vs : List Value), Ab m az = true → Aa F bs H w (Gn ρ az) vs → Aa F' bs0 H0 w az vs
  | [], vs, _, hr => by simpa only [Gn, Aa] using hr
  | a :: az, vs, hb, hr => by
    simp only [Gn, Aa] at hr ⊢
    obtain ⟨h1, h2⟩ := O2 hb
    obtain ⟨u, us, rfl, r1, r2⟩ := hr
    exact ⟨u, us, rfl, Rep.down h a u h1 r1, Aa.down h az us h2 r2⟩
end
structure Up (F F':Nat→Prop)(bs bs0:List Nat)(H H0:Hz)(ρ:Nat→Nat):Prop where
 get:∀j o,H0[j]?=some o→H[ρ j]?=some (I2 ρ o)
 blk:∀j b,bs0[j]?=some b→bs[ρ j]?=some b
 out:∀b,b∉bs0→¬F' b→b∉bs∧¬F b
mutual
theorem Rep.up (h : Up F F' bs bs0 H H0 ρ) : ∀ (a : AVal) (v : Value), Rep F' bs0 H0 w a v → Rep F bs H w (ren ρ a) v
  | .agg cs, v, hr => bY110
  | .tup cs, v, hr => bY110
  | .row k es, v, hr => by
    simp only [ren, Rep] at hr ⊢
    obtain ⟨a, cap, vs, h1, h2, h3, h4⟩ := hr
    refine ⟨a, cap, vs, by rw [h1, Dc], Aa.up h es vs h2, h3, ?_⟩
    cases a with
    | none => exact h4
    | some a =>
      obtain ⟨q1, q2, q3⟩ := h4
      refine ⟨q1, q2, fun j u hj => ?_⟩
      obtain ⟨⟨hn, hnF⟩, hc⟩ := q3 j u hj
      exact ⟨h.out _ hn hnF, hc⟩
  | .hsl k id off len cap, v, hr => by
    simp only [ren, Rep] at hr ⊢
    refine ⟨hr.1, ?_⟩
    have h2 := hr.2
    unfold Ce at h2 ⊢
    cases ho : H0[id]? with
    | none => rw [ho] at h2; exact h2.elim
    | some o =>
      rw [ho] at h2
      rw [h.get id o ho]
      cases o with
      | dead => trivial
      | iter s p => exact h2
      | mp es => exact h2
      | cells T cs op =>
        simp only [I2, Dc]
        obtain ⟨q1, q2⟩ := h2
        refine ⟨q1, fun hop => ?_⟩
        obtain ⟨b, c, r1, r2⟩ := q2 hop
        exact ⟨b, c, h.blk id b r1, r2⟩
  | .ptr id off, v, hr => by
    simp only [ren, Rep] at hr ⊢
    refine ⟨hr.1, ?_⟩
    have h2 := hr.2
    unfold Ey at h2 ⊢
    cases ho : H0[id]? with
    | none => rw [ho] at h2; exact h2.elim
    | some o =>
      rw [ho] at h2
      rw [h.get id o ho]
      cases o with
      | dead => trivial
      | iter s p => obtain ⟨b, r1, r2⟩ := h2; exact ⟨b, h.blk id b r1, r2⟩
      | mp es => exact h2
      | cells T cs op =>
        cases op with
        | false => obtain ⟨b, r1, r2⟩ := h2; exact ⟨b, h.blk id b r1, r2⟩
        | true => exact h2
  | .mref id, v, hr => by
    simp only [ren, Rep] at hr ⊢
    refine ⟨hr.1, ?_⟩
    have h2 := hr.2
    unfold H5 at h2 ⊢
    cases ho : H0[id]? with
    | none => rw [ho] at h2; exact h2.elim
    | some o =>
      rw [ho] at h2
      rw [h.get id o ho]
      cases o with
      | dead => trivial
      | iter s p => exact h2
      | cells T cs op => exact h2
      | mp es => obtain ⟨b, r1, r2⟩ := h2; exact ⟨b, h.blk id b r1, r2⟩
  | .optr id off len, v, hr => by
    simp only [ren, Rep] at hr ⊢
    refine ⟨hr.1, ?_⟩
    have h2 := hr.2
    unfold Fq at h2 ⊢
    cases ho : H0[id]? with
    | none => rw [ho] at h2; exact h2.elim
    | some o =>
      rw [ho] at h2
      rw [h.get id o ho]
      cases o with
      | dead => trivial
      | iter s p => exact h2
      | mp es => exact h2
      | cells T cs op =>
        cases op with
        | true =>
          simp only [I2, Dc]
          refine ⟨h2.1, fun hl => ?_⟩
          obtain ⟨b, r1, r2⟩ := h2.2 hl
          exact ⟨b, h.blk id b r1, r2⟩
        | false => exact h2
  | .eptr e off, v, hr => by
    simp only [ren, Rep] at hr ⊢
    obtain ⟨b, base, u, h1, h2, h3, h4, h5⟩ := hr
    exact ⟨b, base, u, h1, Rep.up h e u h2, h.out _ h3.1 h3.2, h4, h5⟩
  | .fn f a c, v, hr => by
    simp only [ren, Rep] at hr ⊢
    obtain ⟨fs, cs, r1, r2, r3⟩ := hr
    exact ⟨fs, cs, r1, Aa.up h a fs r2, Aa.up h c cs r3⟩
  | .iface t x, v, hr => by
    simp only [ren, Rep] at hr ⊢
    obtain ⟨u, h1, h2⟩ := hr
    exact ⟨u, h1, Rep.up h x u h2⟩
  | .bool _, v, hr => Nw
  | .int _ _, v, hr => Nw
  | .str _, v, hr => Nw
  | .nilSl, v, hr => Nw
  | .emp, v, hr => Nw
  | .nilPtr, v, hr => Nw
  | .nilFn, v, hr => Nw
  | .nilMp, v, hr => Nw
  | .nilIf, v, hr => Nw
theorem Aa.up (h : Up F F' bs bs0 H H0 ρ) : ∀ (az : List AVal) (vs : List Value), Aa F' bs0 H0 w az vs → Aa F bs H w (Gn ρ az) vs
  | [], vs, hr => by simpa only [Gn, Aa] using hr
  | a :: az, vs, hr => by
    simp only [Gn, Aa] at hr ⊢
    obtain ⟨u, us, rfl, r1, r2⟩ := hr
    exact ⟨u, us, rfl, Rep.up h a u r1, Aa.up h az us r2⟩
end
theorem Ru {l:List Nat}(h:∀(i j b:Nat),i<j→l[i]?=some b→l[j]?=some b→False):l.Nodup:=List.pairwise_iff_getElem.2 λi j hi hj hij e=>h i j l[j] hij (by grind)<|gGe hj
theorem A5.ren {P:Program}{W0:World}{f:FuncId}{args:List AVal}{H H0 H0':Hz}{v:AVal}(sel:List Nat)(ρ:Nat→Nat)(hs:Sel sel H0.length H0 H ρ)(hbH:B9 H0.length H0=true)(hba:Ab H0.length args=true)
 (hl:H0'.length=H0.length) (hc:A5 P W0 f args H0 v H0'):A5 P W0 f (Gn ρ args) H (ren ρ v) (F2 sel (H0'.map<|I2 ρ) H):=by
 refine⟨hc.1,λF bs w cargs hh hr=>?_⟩;have hbl:bs.length=H.length:=hh.len;let bs0:List Nat:=sel.map λi=>bs.getD i 0;have hbs0:∀j i,sel[j]?=some i→bs0[j]?=bs[i]?:=λj i hj=>by
  have hi:i<bs.length:=by rw[hbl];exact hs.lt i<|mGe hj
  show(sel.map λi=>bs.getD i 0)[j]?=bs[i]?;grind
 have hbsl:bs0.length=H0.length:=bY206;have hsub:∀b,b∈bs0→b∈bs:=λb hb=>by grind[List.getElem?_of_mem]
 let F':Nat→Prop:=λb=>F b∨(b∈bs∧b∉bs0);have hdown:A7l F F' bs bs0 H H0 ρ H0.length:=by refine⟨λj hj=>?_,λj hj=>hbs0 j (ρ j)<|hs.rho j hj,hsub,λb hb=>hb.imp id And.left⟩;exact⟨H0[j],gGe hj,hs.get j _<|gGe hj⟩
 have hnd0:bs0.Nodup:=by
  refine Ru λi j b hij h1 h2=>?_;have hi':i<sel.length:=by grind
  have hj':j<sel.length:=by grind
  rw[hbs0 i _<|gGe hi']at h1;rw[hbs0 j _<|gGe hj']at h2;have:=Du hh.nodup h1 h2;have h2:=Du hs.nd (i:=i) (j:=j) (gGe hi') (by grind);omega
 have hh0:Ad W0 F' bs0 H0 w:=by
  refine⟨hbsl,hh.base,λb hb=>hh.low b<|hsub b hb,hnd0,λb hb=>?_,λi o b hi hb=>?_⟩
  ·rcases hb with hb|⟨hb,hn⟩;·obtain⟨q1,q2,q3⟩:=hh.forb b hb<;>grind
   ·exact⟨(hh.low b hb).1,(hh.low b hb).2,hn⟩
  ·have hil:i<H0.length:=(List.getElem?_eq_some_iff.1 hi).1;have hb':bs[ρ i]?=some b:=by rw[←hdown.blk i hil];exact hb
   have ho:=hh.obj (ρ i) (I2 ρ o) b (hs.get i o hi) hb';cases o with
   |dead=>trivial|iter s p=>exact ho|mp es=>exact ho
   |cells T cs op=>
    have hcs:=Oq hbH hi;cases op with
    |false=>obtain⟨vs,rest,fr,q1,q2,q3⟩:=ho;exact⟨vs,rest,fr,q1,Aa.down hdown cs vs hcs q2,q3⟩
    |true=>obtain⟨vs,rest,fr,q1,q2,q3⟩:=ho;exact⟨vs,rest,fr,q1,Aa.down hdown cs vs hcs q2,q3⟩
 refine Calls.mono (hc.2 F' bs0 w cargs hh0<|Aa.down hdown args cargs hba hr) λe w' he=>?_;obtain⟨cv,bs0',rfl,hv,hh',he'⟩:=he;have hl0':bs0'.length=sel.length:=by rw[hh'.len,hl,hs.len]
 have hsl:sel.length=H0'.length:=by grind
 let H':=F2 sel (H0'.map<|I2 ρ) H;let bs':=F2 sel bs0' bs;have hH'l:H'.length=H.length:=Gu _ _ _;have hbs'l:bs'.length=bs.length:=Gu _ _ _;have inj:∀(j:Nat),j<H0.length→sel[j]?=some (ρ j):=hs.rho;have getO:∀j o,H0'[j]?=some o→H'[ρ j]?=some (I2 ρ o):=λj o ho=>by
  have hj:j<H0.length:=by grind
  exact Ic sel _ H j (ρ j) _ hs.nd (inj j hj) (by grind)<|hs.lt _<|mGe<|inj j hj
 have getB:∀j b,bs0'[j]?=some b→bs'[ρ j]?=some b:=λj b hb=>by
  have hj:j<H0.length:=by grind
  exact Ic sel _ bs j (ρ j) _ hs.nd (inj j hj) hb (by grind)
 have noO:∀i,i∉sel→H'[i]?=H[i]?:=λi hi=>If sel _ H i hi;have noB:∀i,i∉sel→bs'[i]?=bs[i]?:=λi hi=>If sel _ bs i hi;have selj:∀i,i∈sel→∃j,j<H0.length∧ρ j=i∧sel[j]?=some i:=λi hi=>by grind[List.getElem?_of_mem]
 have getB':∀i b,bs'[i]?=some b→(i∉sel∧bs[i]?=some b)∨∃j,ρ j=i∧sel[j]?=some i∧bs0'[j]?=some b:=λi b hb=>by grind
 have notin:∀i b,i∉sel→bs[i]?=some b→b∉bs0:=λi b hi hb hm=>by
  obtain⟨j,hj⟩:=List.getElem?_of_mem hm;have hjl:j<sel.length:=by grind
  rw[hbs0 j sel[j]<|gGe hjl]at hj;have:=Du hh.nodup hb hj;grind
 have memB':∀b,b∈bs'→(b∈bs∧b∉bs0)∨b∈bs0':=λb hb=>by obtain⟨i,hi⟩:=List.getElem?_of_mem hb;grind
 have hup:Up F F' bs' bs0' H' H0' ρ:=by refine⟨getO,getB,λb hb hf=>⟨λhm=>?_,λhF=>hf<|.inl hF⟩⟩<;>grind
 have hext:Ext bs H w bs' H' w':=by
  refine⟨he'.size,λk hk hn=>he'.block k hk λhm=>hn<|hsub k hm,λk hk=>?_,λi o ho=>?_⟩
  ·rcases memB' k hk with h1|h1;·grind
   ·rcases he'.new k h1 with h2|h2<;>grind
  ·by_cases hi:i∈sel
   ·obtain⟨j,hj,rfl,hsj⟩:=selj i hi;have ho0:=gGe hj;have hoo:=hs.get j _ ho0;rw[ho]at hoo;injection hoo with hoo;obtain⟨o',hj',hx⟩:=he'.obj j _ ho0;refine⟨I2 ρ o',getO j o' hj',?_⟩;have hbj:bs0[j]?=bs[ρ j]?:=hbs0 j _ hsj;have hbj':bs0'[j]?=bs'[ρ j]?:=by grind
    rw[hoo];cases hc0:H0[j]with
    |dead=>rw[hc0]at hx;simp only[Bd]at hx;subst hx;rfl
    |iter s p=>
     rw[hc0]at hx;rcases hx with rfl|⟨s',p',rfl,hb⟩;·exact .inl Z
     ·exact .inr ⟨s',p',Z,by grind⟩
    |mp es=>
     rw[hc0]at hx;rcases hx with rfl|⟨es',rfl,hb⟩;·exact .inl Z
     ·exact .inr ⟨es',Z,by grind⟩
    |cells T cs op=>
     rw[hc0]at hx;cases op with
     |false=>
      rcases hx with rfl|⟨T',cs',rfl,h1,hb⟩;·exact .inl Z
      ·exact .inr ⟨T',_,Z,by grind[Dc],by grind⟩
     |true=>
      rcases hx with rfl|⟨T',cs',rfl,h1⟩;·exact .inl Z
      ·refine .inr ⟨T',_,Z,?_⟩<;>grind[Dc]
   ·refine⟨o,by grind,?_⟩;have hb:=noB i hi;have hz:∀b,bs[i]?=some b→D4 w' b=D4 w b:=λb hb'=>by unfold D4;rw[he'.block b (hh.low b<|mGe hb').2 (notin i b hi hb')]
    cases o with|dead=>rfl|iter s p=>exact .inr ⟨s,p,rfl,hb⟩|mp es=>exact .inr ⟨es,rfl,hb⟩|cells T cs op=>cases op with|false=>exact .inr ⟨T,cs,rfl,rfl,hb⟩|true=>exact .inr ⟨T,cs,rfl,.inr ⟨rfl,hb,hz⟩⟩
 refine⟨cv,bs',Z,Rep.up hup v cv hv,?_,hext⟩;refine⟨by grind,hh'.base,λb hb=>?_,?_,λb hb=>?_,λi o b hi hb=>?_⟩
 ·rcases memB' b hb with h1|h1;·exact⟨(hh.low b h1.1).1,nLl (hh.low b h1.1).2 he'.size⟩
  ·exact hh'.low b h1
 ·refine Ru λi j b hij e hb=>?_;rcases getB' i b e with⟨h1,h2⟩|⟨i',h1,h2,h3⟩<;>rcases getB' j b hb with⟨k1,k2⟩|⟨j',k1,k2,k3⟩;·have:=Du hh.nodup h2 k2;omega
  ·exact(hh'.forb b<|.inr ⟨mGe h2,notin i b h1 h2⟩).2.2 (mGe k3)
  ·exact(hh'.forb b<|.inr ⟨mGe k2,notin j b k1 k2⟩).2.2 (mGe h3)
  ·have:=Du hh'.nodup h3 k3;grind
 ·obtain⟨q1,q2,q3⟩:=hh'.forb b<|.inl hb;refine⟨q1,q2,λhm=>?_⟩;rcases memB' b hm with h1|h1;·exact(hh.forb b hb).2.2 h1.1
  grind
 ·rcases getB' i b hb with⟨h1,h2⟩|⟨j,rfl,h2,h3⟩;·rw[noO i h1]at hi;exact(hh.obj i o b hi h2).ext hext (he'.block b (hh.low b<|mGe h2).2 (notin i b h1 h2))
  ·have hjl:j<H0'.length:=by grind
   have h4:=getO j _<|gGe hjl;rw[hi]at h4;injection h4 with h4;have h5:=hh'.obj j _ b (gGe hjl) h3;rw[h4];cases hc0:H0'[j]with
   |dead=>trivial|iter s p=>rw[hc0]at h5;exact h5|mp es=>rw[hc0]at h5;exact h5
   |cells T cs op=>
    rw[hc0]at h5;cases op with
    |false=>obtain⟨vs,rest,fr,q1,q2,q3⟩:=h5;exact⟨vs,rest,fr,q1,Aa.up hup cs vs q2,q3⟩
    |true=>obtain⟨vs,rest,fr,q1,q2,q3⟩:=h5;exact⟨vs,rest,fr,q1,Aa.up hup cs vs q2,q3⟩
theorem A5.pure {P:Program}{W0:World}{f:FuncId}{args:List AVal}{v:AVal}(ha:Ab 0 args=true)(hv:blw 0 v=true)(hc:A5 P W0 f args [] v [])(H:Hz):A5 P W0 f args H v H:=by have h:=A5.ren (H:=H) [] id ⟨List.nodup_nil,Z,Z,λj hj=>by simp at hj,λi hi=>by simp at hi,λj o ho=>by simp at ho⟩ (H0:=[]) rfl ha rfl hc;rw[Cd args ha,Jt v hv]at h;exact h
end
section
variable {P : Program} {W0 : World} {G : List (Nat × AVal)} {l : List (Nat × AVal)} {H H' : Hz} {n : Nat} {K : St → Prop} {r : List AOper}
theorem lB {d:Nat}{op:AOp}{b:Bool}{side:List (Int×Int)}(h:aop G ⟨.al l,H,n⟩ op=some (.val (.bool b) H' side))(hd:(Nat.blt d n&&Nat.blt d 4094)=true)(hs:Ag side)
 (k1:b=true→Av P W0 G r ⟨.al ((d,.bool true)::l),H',n⟩ K) (k2:b=false→Av P W0 G r ⟨.al ((d,.bool false)::l),H',n⟩ K):Av P W0 G (⟨some d,none,op⟩::r) ⟨.al l,H,n⟩ K:=by
 cases b<;>grind[A9]
theorem lCB {d:Nat}{op:AOp}{f:Nat}{args:List AVal}{b:Bool}(h:aop G ⟨.al l,H,n⟩ op=some (.call f args))(hd:(Nat.blt d n&&Nat.blt d 4094)=true)(hc:A5 P W0 f args H (.bool b) H')
 (k1:b=true→Av P W0 G r ⟨.al ((d,.bool true)::l),H',n⟩ K) (k2:b=false→Av P W0 G r ⟨.al ((d,.bool false)::l),H',n⟩ K):Av P W0 G (⟨some d,none,op⟩::r) ⟨.al l,H,n⟩ K:=by
 cases b<;>grind[Gx]
theorem lGY {dst:Option Nat}{op:AOp}{t:Nat}{want:Bool}(h:lk t l=some (.bool want))(k:Av P W0 G (⟨dst,none,op⟩::r) ⟨.al l,H,n⟩ K):Av P W0 G (⟨dst,some (t,want),op⟩::r) ⟨.al l,H,n⟩ K:=Aal h (λ_=>k) (λe=>by grind)
theorem lGN {d:Nat}{op:AOp}{t:Nat}{want:Bool}(h:lk t l=some (.bool<|!want))(hd:(Nat.blt d n&&Nat.blt d 4094)=true)(k:Av P W0 G r ⟨.al ((d,.tup [])::l),H,n⟩ K):Av P W0 G (⟨some d,some (t,want),op⟩::r) ⟨.al l,H,n⟩ K:=Aal h (λe=>by grind)<|λ_=>A9 rfl hd trivial k
theorem lGT {d:Nat}{op:AOp}{t:Nat}{want:Bool}(h:lk t l=some (.tup []))(hd:(Nat.blt d n&&Nat.blt d 4094)=true)(k:Av P W0 G r ⟨.al ((d,.tup [])::l),H,n⟩ K):Av P W0 G (⟨some d,some (t,want),op⟩::r) ⟨.al l,H,n⟩ K:=Aa2 h<|A9 rfl hd trivial k
theorem qB {d:Nat}{op:AOp}{b:Bool}{side:List (Int×Int)}(h:aop G ⟨.al l,H,n⟩ op=some (.val (.bool b) H side))(hd:(Nat.blt d n&&Nat.blt d 4094)=true)(hs:Ag side)
 (k1:b=true→Bo P W0 G r ⟨.al ((d,.bool true)::l),H,n⟩ K) (k2:b=false→Bo P W0 G r ⟨.al ((d,.bool false)::l),H,n⟩ K):Bo P W0 G (⟨some d,none,op⟩::r) ⟨.al l,H,n⟩ K:=by
 cases b<;>grind[Ak]
theorem qGY {dst:Option Nat}{op:AOp}{t:Nat}{want:Bool}(h:lk t l=some (.bool want))(k:Bo P W0 G (⟨dst,none,op⟩::r) ⟨.al l,H,n⟩ K):Bo P W0 G (⟨dst,some (t,want),op⟩::r) ⟨.al l,H,n⟩ K:=Acn h (λ_=>k) (λe=>by grind)
theorem qGN {d:Nat}{op:AOp}{t:Nat}{want:Bool}(h:lk t l=some (.bool<|!want))(hd:(Nat.blt d n&&Nat.blt d 4094)=true)(k:Bo P W0 G r ⟨.al ((d,.tup [])::l),H,n⟩ K):Bo P W0 G (⟨some d,some (t,want),op⟩::r) ⟨.al l,H,n⟩ K:=Acn h (λe=>by grind)<|λ_=>Ak rfl hd trivial k
end
section
variable {P : Program} {W0 : World} {G : List (Nat × AVal)} {s : St} {K : Ai → St → Prop}
theorem ExA.condT (hg:Gr P W0 G){c:AOpd}{x y:ACode}(hv:ev G s c=some (.bool true))(h:ExA P W0 x s K):ExA P W0 (.cond c x y) s K:=ExA.cond hg hv (λ_=>h) (λe=>by cases e)
theorem ExA.condF (hg:Gr P W0 G){c:AOpd}{x y:ACode}(hv:ev G s c=some (.bool false))(h:ExA P W0 y s K):ExA P W0 (.cond c x y) s K:=ExA.cond hg hv (λe=>by cases e)<|λ_=>h
end
theorem A5.at1 {P:Program}{W0:World}{f:FuncId}{args args':List AVal}{o o' q q':HObj}{v v':AVal}(hc:A5 P W0 f args [o] v [o']){H H':Hz}{id:Nat}(hi:H[id]?=some q)
 (hb:B9 1 [o]=true) (ha:Ab 1 args=true) (h1:Gn (λ_=>id) args=args') (h2:Abs.ren (λ_=>id) v=v') (h3:I2 (λ_=>id) o=q) (h4:I2 (λ_=>id) o'=q') (h5:H.set id q'=H'):A5 P W0 f args' H v' H':=by
 subst h1;subst h2;subst h4;subst h5
 have hs:Sel [id] [o].length [o] H (λ_=>id):=⟨Ax,rfl,rfl,λj hj=>by
  grind,λi h=>by
  grind,λj p h=>by
  grind⟩
 have:=A5.ren (H0:=[o]) (H0':=[o']) [id] (λ_=>id) hs hb ha Z hc;exact this
theorem S4 {α:Type}{l:List α}{i:Nat}{x:α}(h:l[i]?=some x):l.set i x=l:=by apply List.ext_getElem?;grind
theorem w64 {x:Int}(h1:-9223372036854775808≤x)(h2:x≤9223372036854775807):IntKind.i64.wrap x=x:=by rw[IntKind.wrap_i64];omega
section
variable {P : Program} {W0 : World} {G : List (Nat × AVal)} {l : List (Nat × AVal)} {H : Hz} {n : Nat} {K : St → Prop} {r : List AOper}
theorem lAddN {d:Nat}{x y:AOpd}{a b:Nat}(hx:ev G ⟨.al l,H,n⟩ x=some (.int .i64 a))(hy:ev G ⟨.al l,H,n⟩ y=some (.int .i64 b))(hd:(Nat.blt d n&&Nat.blt d 4094)=true)(hb:a+b≤9223372036854775807)
 (k:Av P W0 G r ⟨.al ((d,.int .i64 (a+b:Nat))::l),H,n⟩ K):Av P W0 G (⟨some d,none,.bin .add none x y⟩::r) ⟨.al l,H,n⟩ K:=by
 refine A9 (side:=[]) ?_ hd O k;simp only[aop,hx,hy];show V9 H (some (.int .i64<|IntKind.i64.wrap<|a+b,[]))=_;grind[V9,w64]
theorem qAddN {d:Nat}{x y:AOpd}{a b:Nat}(hx:ev G ⟨.al l,H,n⟩ x=some (.int .i64 a))(hy:ev G ⟨.al l,H,n⟩ y=some (.int .i64 b))(hd:(Nat.blt d n&&Nat.blt d 4094)=true)(hb:a+b≤9223372036854775807)
 (k:Bo P W0 G r ⟨.al ((d,.int .i64 (a+b:Nat))::l),H,n⟩ K):Bo P W0 G (⟨some d,none,.bin .add none x y⟩::r) ⟨.al l,H,n⟩ K:=by
 refine Ak (side:=[]) ?_ hd O k;simp only[aop,hx,hy];show V9 H (some (.int .i64<|IntKind.i64.wrap<|a+b,[]))=_;grind[V9,w64]
end
def O9 :List (Nat×AVal)→Env→Prop
 | [],_=>True|p::r,e=>e.get p.1=some p.2∧O9 r e
theorem agC {t:Nat}{v:AVal}{r:List (Nat×AVal)}{e:Env}(h:e.get t=some v)(k:O9 r e):O9 ((t,v)::r) e:=⟨h,k⟩
theorem agN {e:Env}:O9 [] e:=trivial
theorem P5 :∀{l:List (Nat×AVal)}{e:Env},O9 l e→∀p∈l,e.get p.1=some p.2
 | [],_,_,_,h=>by cases h
 |q::r,e,ha,p,h=>by
  rcases List.mem_cons.1 h with rfl|h;·exact ha.1
  ·exact P5 ha.2 p h
theorem Wh {l:List (Nat×AVal)}{H:Hz}{n:Nat}{s:St}(hn:n=s.n)(hH:H=s.H)(h:O9 l s.env){m:Nat}(hm:m=s.H.length):Wk m ⟨.al l,H,n⟩ s:=by subst hm;exact Wk.same hn hH<|P5 h
theorem wkCut {m:Nat}{l:List (Nat×AVal)}{H:Hz}{n:Nat}{s:St}(hn:n=s.n)(hm:m≤H.length)(hH:s.H.take H.length=H)(h:O9 l s.env)(hb:B9 H.length H=true)(hl:Ab H.length (l.map (·.2))=true):Wk m ⟨.al l,H,n⟩ s:=Wk.cut hn hm hH (P5 h) hb hl
theorem wkLen {l:List (Nat×AVal)}{H:Hz}{n:Nat}{s:St}(hn:n=s.n)(hH:H=s.H)(h:O9 l s.env){m:Nat}(hm:m≤s.H.length):Wk m ⟨.al l,H,n⟩ s:=⟨hn,by grind,by grind,A58<|P5 h,.inl (by rw[hH])⟩
theorem Tj {a b:Nat}(h:a<b):Nat.blt a b=true:=by simp_all
theorem A2n {a b:Nat}(h:¬a<b):Nat.blt a b=false:=by grind[Nat.blt_eq]
theorem A99 {s:Bz}{pos:Nat}{b:UInt8}{r:Bz}(h:s.drop pos=b::r)(hb:b.toNat<128):K3 s pos=(b.toNat,1):=by have h1:=Lib.decodeL_drop ⟨s.toArray⟩ pos;grind[K3,Lib.decodeL_ascii]
section
variable {P : Program} {W0 : World} {G : List (Nat × AVal)}
def ExR (P:Program)(W0:World)(c:ACode)(K:Ai→St→Prop):Nat→St→Prop
 |0,_=>False|n+1,s=>ExA P W0 c s λe s'=>e.then s' (ExR P W0 c K n) K
theorem ExR.step {c:ACode}{K:Ai→St→Prop}{n:Nat}{s:St}(h:ExA P W0 c s λe s'=>e.then s' (ExR P W0 c K n) K):ExR P W0 c K (n+1) s:=h
theorem ExA.unroll {c:ACode}{K:Ai→St→Prop}(n:Nat){s:St}(h:ExR P W0 c K n s):ExA P W0 (.loop c) s K:=λk hk=>by obtain⟨k',rfl,hk'⟩:=G8 hk;refine Ex.loop (σ:=Nat) (λn s=>ExR P W0 c K n s) id (i:=n) h ?_;intro i s hi;cases i with|zero=>exact hi.elim|succ i=>refine(hi k' hk').mono λe s' h=>?_;cases e with|normal=>exact⟨i,h,Nat.lt_succ_self i⟩|exit id=>exact h|ret=>exact h
variable {l : List (Nat × AVal)} {H : Hz} {n : Nat} {K : St → Prop} {r : List AOper}
theorem lBk {d:Nat}{op:AOp}{b c:Bool}(h:aop G ⟨.al l,H,n⟩ op=some (.val (.bool b) H []))(hd:(Nat.blt d n&&Nat.blt d 4094)=true)(hb:b=c)(k:Av P W0 G r ⟨.al ((d,.bool c)::l),H,n⟩ K):Av P W0 G (⟨some d,none,op⟩::r) ⟨.al l,H,n⟩ K:=by subst hb;exact A9 h hd trivial k
theorem qBk {d:Nat}{op:AOp}{b c:Bool}(h:aop G ⟨.al l,H,n⟩ op=some (.val (.bool b) H []))(hd:(Nat.blt d n&&Nat.blt d 4094)=true)(hb:b=c)(k:Bo P W0 G r ⟨.al ((d,.bool c)::l),H,n⟩ K):Bo P W0 G (⟨some d,none,op⟩::r) ⟨.al l,H,n⟩ K:=by subst hb;exact Ak h hd trivial k
theorem lKv {d:Nat}{op:AOp}{v v0:AVal}{H':Hz}{side:List (Int×Int)}(h:aop G ⟨.al l,H,n⟩ op=some (.val v0 H' side))(hd:(Nat.blt d n&&Nat.blt d 4094)=true)(hs:Ag side)(hv:v0=v)(k:Av P W0 G r ⟨.al ((d,v)::l),H',n⟩ K):Av P W0 G (⟨some d,none,op⟩::r) ⟨.al l,H,n⟩ K:=by grind[A9]
theorem qKv {d:Nat}{op:AOp}{v v0:AVal}{side:List (Int×Int)}(h:aop G ⟨.al l,H,n⟩ op=some (.val v0 H side))(hd:(Nat.blt d n&&Nat.blt d 4094)=true)(hs:Ag side)(hv:v0=v)(k:Bo P W0 G r ⟨.al ((d,v)::l),H,n⟩ K):Bo P W0 G (⟨some d,none,op⟩::r) ⟨.al l,H,n⟩ K:=by grind[Ak]
end
def FzV (H:Hz)(n:Nat)(v2 v:AVal):Prop:=(∃k,frz H n k v2=some v)∨(v2= .nilSl∧∃k,v= .row k [])
theorem A3x {W0:World}{F:Nat→Prop}{bs:List Nat}{H:Hz}{w:World}(hh:Ad W0 F bs H w){n:Nat}{v2 v:AVal}{x:Value}(hr:Rep F bs H w v2 x)(h:FzV H n v2 v):Rep F (bs.take n) (H.take n) w v x:=by
 rcases h with⟨k,h⟩|⟨rfl,k,rfl⟩;·grind[Tc]
 ·simp only[Rep]at hr;subst hr;simp only[Rep,Aa];exact⟨none,0,[],Z,Z,Ax,Z,Z⟩
structure Fz (m:Nat)(s1 s2:St):Prop where
 n:s1.n=s2.n
 H:∃k,m≤k∧s1.H=s2.H.take k∧B9 k (s2.H.take k)=true∧∀t v,s1.env.get t=some v→∃v2,s2.env.get t=some v2∧FzV s2.H k v2 v
section
variable {P : Program} {W0 : World} {G : List (Nat × AVal)}
theorem RS.fz {F:Nat→Prop}{bs:List Nat}{s1 s2:St}{a:Act}{w:World}(hs:RS W0 F bs s2 a w){m:Nat}(hf:Fz m s1 s2){bs0:List Nat}{H0:Hz}{w0:World}(he:Ext bs0 H0 w0 bs s2.H w)(hm:H0.length=m):
 ∃bs',RS W0 F bs' s1 a w∧Ext bs0 H0 w0 bs' s1.H w:=by
 obtain⟨hn,k,hmk,hH,hb,henv⟩:=hf;refine⟨bs.take k,⟨by rw[hH];exact hs.heap.take hb,by rw[hs.size,hn],λt v hv=>?_⟩,?_⟩;·obtain⟨v2,h1,h2⟩:=henv t v hv;rw[hH];exact A3x hs.heap (hs.env t v2 h1) h2
 ·rw[hH];exact he.takeN Y
def ExM (P:Program)(W0:World)(m:Nat)(a:ACode)(s:St)(K:Ai→St→Prop):Prop:=
 ∀c,Bq P c=some a→∀(F:Nat→Prop) (bs:List Nat) (x:Act) (w:World),RS W0 F bs s x w→∀(bs0:List Nat) (H0:Hz) (w0:World),H0.length=m→Ext bs0 H0 w0 bs s.H w→∀Q:Exit→Act→World→Prop,
  (∀e s' bs' a' w',K e s'→RS W0 F bs' s' a' w'→Ext bs0 H0 w0 bs' s'.H w'→a'.defers=x.defers→Q (convE e) a' w')→c.wp P Q x w
theorem ExM.of {m:Nat}{a:ACode}{s:St}{K:Ai→St→Prop}(h:ExA P W0 a s K):ExM P W0 m a s K:=λc hc F bs x w hs bs0 H0 w0 _ he Q hq=>h c hc F bs x w hs Q λe s' bs' a' w' h1 h2 h3 h4=>hq e s' bs' a' w' h1 h2 (he.trans h3) h4
theorem ExM.mono {m:Nat}{a:ACode}{s:St}{K K':Ai→St→Prop}(h:ExM P W0 m a s K)(hk:∀e s',K e s'→K' e s'):ExM P W0 m a s K':=λc hc F bs x w hs bs0 H0 w0 hm he Q hq=>h c hc F bs x w hs bs0 H0 w0 hm he Q λe s' bs' a' w' h1=>hq e s' bs' a' w'<|hk e s' h1
theorem ExM.fz {m:Nat}{a:ACode}{s1 s2:St}{K:Ai→St→Prop}(hf:Fz m s1 s2)(h:ExM P W0 m a s1 K):ExM P W0 m a s2 K:=λc hc F bs x w hs bs0 H0 w0 hm he Q hq=>by obtain⟨bs',h1,h2⟩:=hs.fz hf he hm;exact h c hc F bs' x w h1 bs0 H0 w0 hm h2 Q hq
theorem ExM.seq {m:Nat}{x y:ACode}{s:St}{K:Ai→St→Prop}(h:ExM P W0 m x s λe s'=>e.then s' (λs'=>ExM P W0 m y s' K) K):ExM P W0 m (.seq x y) s K:=λc hc=>by obtain⟨a,b,rfl,ha,hb⟩:=Pi hc;intro F bs x w hs bs0 H0 w0 hm he Q hq;refine wp_seq<|h a ha F bs x w hs bs0 H0 w0 hm he _ λe s' bs' a' w' hk hrs hext hd=>?_;cases e with|normal=>exact hk b hb F bs' a' w' hrs bs0 H0 w0 hm hext Q λe2 s2 bs2 a2 w2 h1 h2 h3 h4=>hq e2 s2 bs2 a2 w2 h1 h2 h3 (h4.trans hd)|exit id=>exact hq (.exit id) s' bs' a' w' hk hrs hext hd|ret=>exact hq .ret s' bs' a' w' hk hrs hext hd
theorem ExM.cond (hg:Gr P W0 G){m:Nat}{s:St}{K:Ai→St→Prop}{c:AOpd}{x y:ACode}{b:Bool}(hv:ev G s c=some (.bool b))(ht:b=true→ExM P W0 m x s K)(hf:b=false→ExM P W0 m y s K):ExM P W0 m (.cond c x y) s K:=λk hk=>by obtain⟨p,a,d,rfl,hp,ha,hd⟩:=M8 hk;intro F bs x w hs bs0 H0 w0 hm he Q hq;exact wp_cond_split (t:=b) (by have:=B6 hg.g hs hp hv;grind[Rep]) (λh=>ht h a ha F bs x w hs bs0 H0 w0 hm he Q hq)<|λh=>hf h d hd F bs x w hs bs0 H0 w0 hm he Q hq
theorem ExM.condT (hg:Gr P W0 G){m:Nat}{s:St}{K:Ai→St→Prop}{c:AOpd}{x y:ACode}(hv:ev G s c=some (.bool true))(h:ExM P W0 m x s K):ExM P W0 m (.cond c x y) s K:=ExM.cond hg hv (λ_=>h) (λe=>by cases e)
theorem ExM.condF (hg:Gr P W0 G){m:Nat}{s:St}{K:Ai→St→Prop}{c:AOpd}{x y:ACode}(hv:ev G s c=some (.bool false))(h:ExM P W0 m y s K):ExM P W0 m (.cond c x y) s K:=ExM.cond hg hv (λe=>by cases e)<|λ_=>h
theorem ExM.block {m:Nat}{s:St}{K:Ai→St→Prop}{id:Nat}{x:ACode}(h:ExM P W0 m x s<|Ai.inBlock id K):ExM P W0 m (.block id x) s K:=λc hc=>by obtain⟨a,rfl,ha⟩:=Oi hc;intro F bs x w hs bs0 H0 w0 hm he Q hq;refine wp_block<|h a ha F bs x w hs bs0 H0 w0 hm he _ λe s' bs' a' w' hk hrs hext hd=>?_;cases e with|normal=>exact hq .normal s' bs' a' w' hk hrs hext hd|ret=>exact hq .ret s' bs' a' w' hk hrs hext hd|exit j=>simp only[Ai.inBlock]at hk;show if j=id then Q .normal a' w' else Q (.exit j) a' w';cases hj:Nat.beq j id with|true=>rw[hj]at hk;rw[if_pos<|nBq hj];exact hq .normal s' bs' a' w' hk hrs hext hd|false=>rw[hj]at hk;rw[if_neg<|Nat.ne_of_beq_eq_false hj];exact hq (.exit j) s' bs' a' w' hk hrs hext hd
theorem ExM.scope {m:Nat}{s:St}{K:Ai→St→Prop}{x:ACode}(h:ExM P W0 m x s K):ExM P W0 m (.scope x) s K:=λc hc=>by
 obtain⟨a,rfl,ha⟩:=A3h hc;intro F bs x w hs bs0 H0 w0 hm he Q hq
 exact wp_scope_straight (h a ha F bs x w hs bs0 H0 w0 hm he _ λe s' bs' a' w' hk hrs hext hd=>by
  have:=hq e s' bs' a' w' hk hrs hext hd
  cases e<;>exact this)
theorem ExM.mark {m:Nat}{s:St}{K:Ai→St→Prop}(h:K .normal s):ExM P W0 m .mark s K:=λc hc=>by obtain⟨l,rfl⟩:=A59 hc;intro F bs x w hs bs0 H0 w0 hm he Q hq;exact wp_label<|hq .normal s bs x w h hs he Z
theorem ExM.skip {m:Nat}{s:St}{K:Ai→St→Prop}(h:K .normal s):ExM P W0 m .skip s K:=ExM.of<|ExA.skip h
theorem ExM.exit {m:Nat}{s:St}{K:Ai→St→Prop}{id:Nat}(h:K (.exit id) s):ExM P W0 m (.exit id) s K:=ExM.of<|ExA.exit h
theorem ExM.ret {m:Nat}{s:St}{K:Ai→St→Prop}(h:K .ret s):ExM P W0 m .ret s K:=ExM.of<|ExA.ret h
theorem ExM.draw (hg:Gr P W0 G){m:Nat}{l:List AOper}{b:Bool}{s:St}{K:Ai→St→Prop}(h:Bo P W0 G l s<|K .normal):ExM P W0 m (.draw l b) s K:=ExM.of<|ExA.draw hg h
theorem ExM.loop {m:Nat}{c:ACode}{σ:Type}(st:σ→St)(I:σ→Prop)(μ:σ→Nat)(i:σ){s:St}{K:Ai→St→Prop}(h0:Fz m (st i) s)(hI:I i)
 (round:∀i,I i→ExM P W0 m c (st i) λe s'=>e.then s' (λs'=>∃j,I j∧μ j<μ i∧Fz m (st j) s') K):ExM P W0 m (.loop c) s K:=λk hk=>by
 obtain⟨k',rfl,hk'⟩:=G8 hk;intro F bs a w hs bs0 H0 w0 hm he Q hq;refine Ew (σ:=σ) (λi a' w'=>∃bs',I i∧RS W0 F bs' (st i) a' w'∧Ext bs0 H0 w0 bs' (st i).H w'∧a'.defers=a.defers) μ (s:=i) ?_ ?_;·obtain⟨bs',h1,h2⟩:=hs.fz h0 he hm;grind
 ·rintro i a1 w1 ⟨bs1,hi,hrs1,hext1,hd1⟩;refine round i hi k' hk' F bs1 a1 w1 hrs1 bs0 H0 w0 hm hext1 _ λe s' bs' a' w' hkk hrs hext hd=>?_;cases e with
  |normal=>obtain⟨j,hj,hlt,hw⟩:=hkk;obtain⟨bs2,h1,h2⟩:=hrs.fz hw hext hm;exact⟨j,⟨bs2,hj,h1,h2,hd.trans hd1⟩,hlt⟩
  |exit id=>exact hq (.exit id) s' bs' a' w' hkk hrs hext (hd.trans hd1)|ret=>exact hq .ret s' bs' a' w' hkk hrs hext<|hd.trans hd1
def Af (P:Program)(W0:World)(G:List<|Nat×AVal)(m:Nat)(l:List AOper)(s:St)(K:St→Prop):Prop:=
 ∀(ops:Array Oper) (i:Nat),Bc P ops (ops.toList.drop i)=some l→∀(F:Nat→Prop) (bs:List Nat) (a:Act) (w:World),RS W0 F bs s a w→∀(bs0:List Nat) (H0:Hz) (w0:World),H0.length=m→Ext bs0 H0 w0 bs s.H w→∀Q:Exit→Act→World→Prop,
  (∀s' bs' a' w',K s'→RS W0 F bs' s' a' w'→Ext bs0 H0 w0 bs' s'.H w'→a'.defers=a.defers→Q .normal a' w')→wpOps P ops Q (List.range' i l.length) a w
theorem Eh {ops:Array Oper}{l:List Oper}{o:AOper}{r:List AOper}(h:Bc P ops l=some (o::r)):∃x xs,l=x::xs∧Be P ops x=some o∧Bc P ops xs=some r:=by cases l<;>grind[Bc]
theorem Ba {m:Nat}{s:St}{K:St→Prop}(h:K s):Af P W0 G m [] s K:=λops i hc F bs a w hs bs0 H0 w0 hm he Q hq=>by grind[wpOps]
theorem Zh (hg:Gr P W0 G){m:Nat}{s:St}{K:St→Prop}{o:AOper}{r:List AOper}(h:I6 P W0 G o s λs'=>Af P W0 G m r s' K):Af P W0 G m (o::r) s K:=λops i hc F bs a w hs bs0 H0 w0 hm he Q hq=>by
 obtain⟨x,xs,hd,hx,hxs⟩:=Eh hc;have hi:ops[i]?=some x:=by have h0:=congrArg (λl=>l[0]?) hd;grind
 have hr:ops.toList.drop (i+1)=xs:=by have:=congrArg (List.drop 1) hd;grind[List.drop_drop]
 have hP:=S9 hx h;simp only[lCo,List.range'_succ,wpOps,hi];refine Ir hg.g hs hP λs' bs' a' w' hk hrs hext hdf=>?_;exact hk ops (i+1) (by grind) F bs' a' w' hrs bs0 H0 w0 hm (he.trans hext) Q λs2 bs2 a2 w2 h1 h2 h3 h4=>hq s2 bs2 a2 w2 h1 h2 h3<|h4.trans hdf
theorem mFz {m:Nat}{s1 s2:St}{K:St→Prop}{r:List AOper}(hf:Fz m s1 s2)(h:Af P W0 G m r s1 K):Af P W0 G m r s2 K:=λops i hc F bs a w hs bs0 H0 w0 hm he Q hq=>by obtain⟨bs',h1,h2⟩:=hs.fz hf he hm;exact h ops i hc F bs' a w h1 bs0 H0 w0 hm h2 Q hq
theorem ExM.ops (_hg:Gr P W0 G){m:Nat}{l:List AOper}{s:St}{K:Ai→St→Prop}(h:Af P W0 G m l s<|K .normal):ExM P W0 m (.ops l) s K:=λc hc=>by obtain⟨id,ops,rfl,h1⟩:=Sj hc;intro F bs a w hs bs0 H0 w0 hm he Q hq;have hlen:=(Da h1).1;refine wp_region ?_;have:=h ops 0 (by grind) F bs a w hs bs0 H0 w0 hm he Q λs' bs' a' w' hk=>hq .normal s' bs' a' w' hk;grind[List.range_eq_range']
theorem A5.of_fnM {f:Nat}{x:AFn}(hf:Gw P f=some x){args:List AVal}{H:Hz}{v:AVal}{H':Hz}(hl:args.length≤4094){n:Nat}(hn:args.length+(x.n-args.length)=n)
 (h:ExM P W0 H.length x.code ⟨.al<|Ej 0 args,H,n⟩<|Iy x.res H.length v H'):A5 P W0 f args H v H':=by
 obtain⟨fn,c,h1,h2,h3,h4,h5,h6⟩:=Jp hf;refine⟨⟨fn,c,h1,h2,h5⟩,λF bs w cargs hh hr=>?_⟩;have hrs:=G7 hh hr hl fn.ntmps;have hrs':RS W0 F bs ⟨.al<|Ej 0 args,H,n⟩ {tmps:=cargs.toArray++Array.replicate (fn.ntmps-cargs.toArray.size) undef,defers:=[]} w:=
  ⟨hrs.heap,A35,λt u hu=>hrs.env t u (by
   rw[Ds args 0 .leaf t Y];have hu:lk t (Ej 0 args)=some u:=hu;rw[Je]at hu
   grind)⟩
 refine calls_of_wp h1 h2<|h c h3 F bs _ w hrs' bs H w Z (Ext.refl _ _ _) _ λe s' bs' a' w' hk hrs hext hd=>?_;obtain⟨hne,vs,hvs,hlv⟩:=hk;obtain⟨cv,r1,r2⟩:=G5 hrs<|L9 h4 hvs;obtain⟨bs'',r3,r4,r5⟩:=P1 hrs.heap hext r2 hlv;have fin:bodyPost P fn (λe w'=>∃cv bs',e= .returned cv∧Rep F bs' H' w' v cv∧Ad W0 F bs' H' w'∧Ext bs H w bs' H' w') .ret a' w':=⟨hd,cv,r1,cv,bs'',rfl,r3,r4,r5⟩;cases e with|normal=>exact fin|ret=>exact fin|exit id=>exact hne.elim
variable {m : Nat} {l : List (Nat × AVal)} {H H' : Hz} {n : Nat} {K : St → Prop} {r : List AOper}
def Gok (g:Option<|Nat×Bool)(l:List<|Nat×AVal):Prop:=match g with
 |none=>True|some (t,w)=>lk t l=some (.bool w)
theorem gN :Gok none l:=O
theorem gS {t:Nat}{w:Bool}(h:lk t l=some (.bool w)):Gok (some (t,w)) l:=h
theorem Lj {dst:Option Nat}{g:Option (Nat×Bool)}{op:AOp}(hgd:Gok g l)(h:Ia P W0 H (aop G ⟨.al l,H,n⟩ op) λv H'=>Rx ⟨.al l,H,n⟩ dst v H' K):I6 P W0 G ⟨dst,g,op⟩ ⟨.al l,H,n⟩ K:=by cases g with|none=>exact h|some p=>obtain⟨t,w⟩:=p;have h':(Env.al l).get t=some (.bool w):=hgd;simp only[I6,h'];cases w<;>exact h
theorem Ac (hg:Gr P W0 G){g:Option (Nat×Bool)}(hgd:Gok g l){d:Nat}{op:AOp}{v:AVal}{side:List (Int×Int)}(h:aop G ⟨.al l,H,n⟩ op=some (.val v H' side))(hd:(Nat.blt d n&&Nat.blt d 4094)=true)(hs:Ag side)(k:Af P W0 G m r ⟨.al ((d,v)::l),H',n⟩ K):Af P W0 G m (⟨some d,g,op⟩::r) ⟨.al l,H,n⟩ K:=by refine Zh hg<|Lj hgd ?_;rw[h];exact⟨hs,hd,k⟩
theorem mVal0 (hg:Gr P W0 G){g:Option (Nat×Bool)}(hgd:Gok g l){op:AOp}{v:AVal}{side:List (Int×Int)}(h:aop G ⟨.al l,H,n⟩ op=some (.val v H' side))(hs:Ag side)(k:Af P W0 G m r ⟨.al l,H',n⟩ K):Af P W0 G m (⟨none,g,op⟩::r) ⟨.al l,H,n⟩ K:=by refine Zh hg<|Lj hgd ?_;rw[h];exact⟨hs,k⟩
theorem Ah (hg:Gr P W0 G){g:Option (Nat×Bool)}(hgd:Gok g l){op:AOp}(h:aop G ⟨.al l,H,n⟩ op=some (.skip H'))(k:Af P W0 G m r ⟨.al l,H',n⟩ K):Af P W0 G m (⟨none,g,op⟩::r) ⟨.al l,H,n⟩ K:=by refine Zh hg<|Lj hgd ?_;rw[h];exact k
theorem G1 (hg:Gr P W0 G){g:Option (Nat×Bool)}(hgd:Gok g l){d:Nat}{op:AOp}{f:Nat}{args:List AVal}{v:AVal}(h:aop G ⟨.al l,H,n⟩ op=some (.call f args))(hd:(Nat.blt d n&&Nat.blt d 4094)=true)(hc:A5 P W0 f args H v H')(k:Af P W0 G m r ⟨.al ((d,v)::l),H',n⟩ K):Af P W0 G m (⟨some d,g,op⟩::r) ⟨.al l,H,n⟩ K:=by refine Zh hg<|Lj hgd ?_;rw[h];exact⟨v,H',hc,hd,k⟩
theorem mB (hg:Gr P W0 G){g:Option (Nat×Bool)}(hgd:Gok g l){d:Nat}{op:AOp}{b:Bool}{side:List (Int×Int)}(h:aop G ⟨.al l,H,n⟩ op=some (.val (.bool b) H' side))(hd:(Nat.blt d n&&Nat.blt d 4094)=true)(hs:Ag side)
 (k1:b=true→Af P W0 G m r ⟨.al ((d,.bool true)::l),H',n⟩ K) (k2:b=false→Af P W0 G m r ⟨.al ((d,.bool false)::l),H',n⟩ K):Af P W0 G m (⟨some d,g,op⟩::r) ⟨.al l,H,n⟩ K:=by
 cases b<;>grind[Ac]
theorem mCB (hg:Gr P W0 G){g:Option (Nat×Bool)}(hgd:Gok g l){d:Nat}{op:AOp}{f:Nat}{args:List AVal}{b:Bool}(h:aop G ⟨.al l,H,n⟩ op=some (.call f args))(hd:(Nat.blt d n&&Nat.blt d 4094)=true)(hc:A5 P W0 f args H (.bool b) H')
 (k1:b=true→Af P W0 G m r ⟨.al ((d,.bool true)::l),H',n⟩ K) (k2:b=false→Af P W0 G m r ⟨.al ((d,.bool false)::l),H',n⟩ K):Af P W0 G m (⟨some d,g,op⟩::r) ⟨.al l,H,n⟩ K:=by
 cases b<;>grind[G1]
theorem I1 (hg:Gr P W0 G){g:Option (Nat×Bool)}(hgd:Gok g l){d:Nat}{op:AOp}{f:Nat}{args:List AVal}{b c:Bool}(h:aop G ⟨.al l,H,n⟩ op=some (.call f args))(hd:(Nat.blt d n&&Nat.blt d 4094)=true)(hc:A5 P W0 f args H (.bool b) H')(hb:b=c)
 (k:Af P W0 G m r ⟨.al ((d,.bool c)::l),H',n⟩ K):Af P W0 G m (⟨some d,g,op⟩::r) ⟨.al l,H,n⟩ K:=by
 grind[G1]
theorem mGN (hg:Gr P W0 G){d:Nat}{op:AOp}{t:Nat}{want:Bool}(h:lk t l=some (.bool<|!want))(hd:(Nat.blt d n&&Nat.blt d 4094)=true)(k:Af P W0 G m r ⟨.al ((d,.tup [])::l),H,n⟩ K):Af P W0 G m (⟨some d,some (t,want),op⟩::r) ⟨.al l,H,n⟩ K:=by refine Zh hg ?_;have h':(Env.al l).get t=some (.bool<|!want):=h;simp only[I6,h'];cases want<;>exact⟨hd,k⟩
theorem mGT (hg:Gr P W0 G){d:Nat}{op:AOp}{t:Nat}{want:Bool}(h:lk t l=some (.tup []))(hd:(Nat.blt d n&&Nat.blt d 4094)=true)(k:Af P W0 G m r ⟨.al ((d,.tup [])::l),H,n⟩ K):Af P W0 G m (⟨some d,some (t,want),op⟩::r) ⟨.al l,H,n⟩ K:=by refine Zh hg ?_;have h':(Env.al l).get t=some (.tup []):=h;simp only[I6,h'];exact⟨hd,k⟩
theorem mKv (hg:Gr P W0 G){g:Option (Nat×Bool)}(hgd:Gok g l){d:Nat}{op:AOp}{v v0:AVal}{side:List (Int×Int)}(h:aop G ⟨.al l,H,n⟩ op=some (.val v0 H' side))(hd:(Nat.blt d n&&Nat.blt d 4094)=true)(hs:Ag side)(hv:v0=v)(k:Af P W0 G m r ⟨.al ((d,v)::l),H',n⟩ K):Af P W0 G m (⟨some d,g,op⟩::r) ⟨.al l,H,n⟩ K:=by grind[Ac]
theorem mBk (hg:Gr P W0 G){g:Option (Nat×Bool)}(hgd:Gok g l){d:Nat}{op:AOp}{b c:Bool}(h:aop G ⟨.al l,H,n⟩ op=some (.val (.bool b) H []))(hd:(Nat.blt d n&&Nat.blt d 4094)=true)(hb:b=c)(k:Af P W0 G m r ⟨.al ((d,.bool c)::l),H,n⟩ K):Af P W0 G m (⟨some d,g,op⟩::r) ⟨.al l,H,n⟩ K:=by subst hb;exact Ac hg hgd h hd trivial k
end
def Kp (H:Hz)(n:Nat)(e:Env):List (Nat×AVal)→Prop
 | []=>True|p::r=>(∃v2,e.get p.1=some v2∧FzV H n v2 p.2)∧Kp H n e r
theorem Vx {H:Hz}{n:Nat}{e:Env}:∀{l:List (Nat×AVal)},Kp H n e l→∀p∈l,∃v2,e.get p.1=some v2∧FzV H n v2 p.2
 | [],_,_,h=>I5
 |q::r,ha,p,h=>by
  rcases List.mem_cons.1 h with rfl|h;·exact ha.1
  ·exact Vx ha.2 p h
theorem Aq {m:Nat}{l:List (Nat×AVal)}{H:Hz}{n:Nat}{s:St}(k:Nat)(hn:n=s.n)(hm:m≤k)(hH:s.H.take k=H)(hb:B9 k H=true)(h:Kp s.H k s.env l):Fz m ⟨.al l,H,n⟩ s:=by
 refine⟨hn,k,hm,hH.symm,by grind,λt v hv=>?_⟩;have key:∀l:List (Nat×AVal),lk t l=some v→(t,v)∈l:=by
  intro l;induction l with
  |nil=>intro h;cases h
  |cons p l ih=>intro hw;obtain⟨u,x⟩:=p;simp only[lk]at hw;cases hb:Nat.beq t u with|true=>rw[hb]at hw;simp only[cond_true,iS]at hw;have:=nBq hb;subst this;subst hw;simp|false=>rw[hb]at hw;exact List.mem_cons_of_mem _<|ih hw
 exact Vx h (t,v)<|key l hv
theorem fzC {H:Hz}{n t:Nat}{e:Env}{v2 v:AVal}{r:List (Nat×AVal)}(h:e.get t=some v2)(hf:FzV H n v2 v)(k:Kp H n e r):Kp H n e ((t,v)::r):=⟨⟨v2,h,hf⟩,k⟩
theorem fzN {H:Hz}{n:Nat}{e:Env}:Kp H n e []:=O
theorem fvI {H:Hz}{n:Nat}{k:IntKind}{i:Int}:FzV H n (.int k i) (.int k i):=.inl ⟨1,Z⟩
theorem fvB {H:Hz}{n:Nat}{b:Bool}:FzV H n (.bool b) (.bool b):=.inl ⟨1,Z⟩
theorem fvS {H:Hz}{n:Nat}{s:Bz}:FzV H n (.str s) (.str s):=.inl ⟨1,Z⟩
theorem Re {H:Hz}{n k:Nat}:FzV H n .nilSl (.row k []):=.inr ⟨Z,k,Z⟩
theorem Bi {H:Hz}{n:Nat}:FzV H n .nilSl .nilSl:=.inl ⟨1,Z⟩
def Bf (l:List Nat):List AVal:=l.map λ(d:Nat)=>.int .i64 d
def dg (l:List Nat):AVal:=.row 1<|Bf l
theorem Df (l:List Nat):(Bf l).length=l.length:=by simp[Bf]
theorem Lh {H:Hz}{n:Nat}:∀(l:List Nat),Gv H n (l.length+2) (Bf l)=some (Bf l)
 | []=>rfl|d::l=>by have ih:=Lh (H:=H) (n:=n) l;grind[frz,Gv,Bf]
theorem K9 :∀(l:List Nat) (x:List AVal),Dk 1 l.length (Bf l++x)=Bf l
 | [],_=>rfl|d::l,x=>by show(cond (Nat.beq 1 1) (cond (AVal.int .i64 (d:Nat)).one (AVal.int .i64 (d:Nat)) _) _)::Dk 1 l.length (Bf l++x)=_;rw[K9 l];rfl
theorem B5 {n:Nat}:∀(l:List Nat),Ab n (Bf l)=true
 | []=>rfl|_::l=>B5 l
theorem fvD {H:Hz}{n:Nat}{l:List Nat}:FzV H n (dg l) (dg l):=.inl ⟨l.length+3,by
 show(match Gv H n (l.length+2) (Bf l)with
  |some es'=>some (AVal.row 1 es')|none=>none)=_
 rw[Lh];rfl⟩
theorem Qi {H:Hz}{n id T:Nat}{l:List Nat}{cap:Option Nat}(hn:n≤id)(ho:H[id]?=some (.cells T (Bf l) true)):FzV H n (.hsl 1 id 0 l.length cap) (dg l):=.inl ⟨l.length+3,by
 have h1:Nat.blt id n=false:=A2n Y;have h2:(Nat.beq 0 0&&Nat.beq (l.length*1) (Bf l).length)=true:=by simp[Df]
 have h3:=K9 l [];rw[List.append_nil]at h3;simp only[frz,h1,cond_false,ho,h2,cond_true,h3,Lh]
 rfl⟩
theorem Ll {H:Hz}{n id T:Nat}{l:List Nat}{cap:Option Nat}(hn:n≤id)(ho:H[id]?=some (.cells T (Bf l) false)):FzV H n (.hsl 1 id 0 l.length cap) (dg l):=.inl ⟨l.length+3,by
 have h1:Nat.blt id n=false:=A2n Y;have h3:=K9 l [];rw[List.append_nil]at h3;simp only[frz,h1,cond_false,ho,List.drop_zero,h3,Lh]
 rfl⟩
section
variable {H : Hz} {n t : Nat} {e : Env} {r : List (Nat × AVal)}
theorem fI {k:IntKind}{i:Int}(x:Kp H n e r)(h:e.get t=some (.int k i):=by rfl):Kp H n e ((t,.int k i)::r):=fzC h fvI x
theorem fB {b:Bool}(x:Kp H n e r)(h:e.get t=some (.bool b):=by rfl):Kp H n e ((t,.bool b)::r):=fzC h fvB x
theorem fS {s:Bz}(x:Kp H n e r)(h:e.get t=some (.str s):=by rfl):Kp H n e ((t,.str s)::r):=fzC h fvS x
end
end Go.Abs
namespace Go.Abs
def Dig (a:List Nat):Prop:=∀d∈a,d<10
def Trd (a:List Nat):Prop:=∀n,a.length=n+1→a.getD n 0≠0
def Gf (a:List Nat):Nat→Nat
 |0=>0|n+1=>Gf a n+a.getD n 0*10^n
def val (a:List Nat):Nat:=Gf a a.length
theorem Dig.get {a:List Nat}(h:Dig a)(i:Nat):a.getD i 0<10:=by
 by_cases hi:i<a.length;·rw[List.getD_eq_getElem?_getD,gGe hi];exact h _<|List.getElem_mem hi
 grind
theorem Dig.nil :Dig []:=λ_ h=>I5
theorem Dig.cons {a:List Nat}{d:Nat}(hd:d<10)(h:Dig a):Dig (d::a):=λx hx=>by
 rcases List.mem_cons.1 hx with rfl|hx;·exact hd
 ·exact h x hx
theorem Dig.snoc {a:List Nat}{d:Nat}(hd:d<10)(h:Dig a):Dig (a++[d]):=λx hx=>by
 rcases List.mem_append.1 hx with hx|hx;·exact h x hx
 grind
theorem Dig.app {a b:List Nat}(ha:Dig a)(hb:Dig b):Dig (a++b):=λx hx=>by
 rcases List.mem_append.1 hx with hx|hx;·exact ha x hx
 ·exact hb x hx
theorem Dig.take {a:List Nat}(h:Dig a)(n:Nat):Dig (a.take n):=λx hx=>h x<|List.mem_of_mem_take hx
theorem Dig.zeros (n:Nat):Dig (List.replicate n 0):=λx hx=>by grind
theorem Lt {a:List Nat}(h:Dig a):∀n,Gf a n<10^n
 |0=>by simp[Gf]|n+1=>by have h1:=Lt h n;have h2:=h.get n;have h3:a.getD n 0*10^n≤9*10^n:=Nat.mul_le_mul_right _ Y;grind[Gf]
theorem getD_out {a:List Nat}{n:Nat}(h:a.length≤n):a.getD n 0=0:=by grind
theorem A3j {a:List Nat}:∀{n:Nat},a.length≤n→Gf a n=val a
 |n,h=>by induction n<;>grind[val,Gf]
theorem Qq {a b:List Nat}:∀{n:Nat},(∀i,i<n→a.getD i 0=b.getD i 0)→Gf a n=Gf b n
 |0,_=>rfl|n+1,h=>by simp only[Gf];rw[Qq (n:=n)<|λi hi=>h i Y,h n Y]
theorem Z6 (x:Nat)(a:List Nat):∀n,Gf (x::a) (n+1)=x+10*Gf a n
 |0=>by simp[Gf]|n+1=>by have ih:=Z6 x a n;grind[Gf]
theorem Jo (x:Nat)(a:List Nat):val (x::a)=x+10*val a:=by rw[val,lCo,Z6];rfl
theorem A07 {a:List Nat}{n:Nat}(h:Trd a)(hn:a.length=n+1):10^n≤val a:=by have h1:=h n hn;rw[val,hn];simp only[Gf];have:1*10^n≤a.getD n 0*10^n:=Nat.mul_le_mul_right _ Y;omega
theorem val_pos {a:List Nat}(h:Trd a)(hn:0<a.length):0<val a:=by obtain⟨n,hn⟩:∃n,a.length=n+1:=⟨a.length-1,Y⟩;have:=A07 h hn;grind
def K5 (a:List Nat):Nat→Nat
 |0=>0|n+1=>if a.getD n 0=0 then K5 a n else n+1
def Nk (a:List Nat):List Nat:=a.take<|K5 a a.length
theorem A2k (a:List Nat):∀n,K5 a n≤n
 |0=>Nat.le_refl _
 |n+1=>by
  simp only[K5];split;·exact Nat.le_succ_of_le<|A2k a n
  omega
theorem Y9 (a:List Nat):∀n,Gf a (K5 a n)=Gf a n
 |0=>rfl
 |n+1=>by
  simp only[K5];split;·rename_i h;rw[Y9 a n];grind[Gf]
  ·rfl
theorem A37 (a:List Nat):∀n k,K5 a n=k+1→a.getD k 0≠0
 |0,k,h=>I5
 |n+1,k,h=>by
  simp only[K5]at h;split at h;·exact A37 a n k h
  grind
theorem A85 {a:List Nat}{n i:Nat}(h:i<n):(a.take n).getD i 0=a.getD i 0:=by grind
theorem A06 (a:List Nat):(Nk a).length=K5 a a.length:=by grind[A2k,Nk]
theorem A91 (a:List Nat):val (Nk a)=val a:=by grind[Y9,val,Nk,Qq]
theorem Ad8 (a:List Nat):Trd (Nk a):=λn hn=>by grind[A06,A37,Nk,A85]
theorem A8b {a:List Nat}(h:Dig a):Dig (Nk a):=h.take _
def S5 (a b:List Nat):Nat→Bool
 |0=>false|n+1=>if a.getD n 0=b.getD n 0 then S5 a b n else decide (a.getD n 0<b.getD n 0)
def Wn (a b:List Nat):Bool:=if a.length=b.length then S5 a b a.length else decide (a.length<b.length)
theorem Zk {a b:List Nat}(ha:Dig a)(hb:Dig b):∀n,S5 a b n=decide (Gf a n<Gf b n)
 |0=>by simp[S5,Gf]
 |n+1=>by
  have ih:=Zk ha hb n;have h1:=Lt ha n;have h2:=Lt hb n;simp only[S5,Gf];split;·grind
  ·rename_i h;refine decide_eq_decide.2 ?_;constructor;·intro hlt;have:(a.getD n 0+1)*10^n≤b.getD n 0*10^n:=Nat.mul_le_mul_right _ hlt;grind
   ·intro hlt;by_cases hc:a.getD n 0<b.getD n 0;·exact hc
    ·have:(b.getD n 0+1)*10^n≤a.getD n 0*10^n:=Nat.mul_le_mul_right _ Y;grind
theorem A93 {a b:List Nat}(ha:Dig a)(hb:Dig b)(ta:Trd a)(tb:Trd b):Wn a b=decide (val a<val b):=by
 unfold Wn;split;·simp_all[Zk,val]
 ·rename_i h;refine decide_eq_decide.2 ?_;have key:∀{a b:List Nat},Dig a→Trd b→a.length<b.length→val a<val b:=by intro a b ha tb hlt;obtain⟨n,hn⟩:∃n,b.length=n+1:=⟨b.length-1,Y⟩;have h1:=A07 tb hn;have h2:=Lt ha a.length;have h3:10^a.length≤10^n:=Nat.pow_le_pow_right V Y;grind[val]
  grind
structure Ix (a b out:List Nat)(i c:Nat):Prop where
 len:out.length=i
 dig:Dig out
 hc:c≤1
 v:Gf a i+c*10^i=val out+Gf b i
theorem Xl (out:List Nat)(d:Nat):val (out++[d])=val out+d*10^out.length:=by rw[val,lAp,List.length_singleton]<;>grind[val,Gf,Qq]
theorem Ix.zero (a b:List Nat):Ix a b [] 0 0:=⟨Z,Dig.nil,V,by simp[Gf,val]⟩
theorem Ix.step0 {a b out:List Nat}{i c d:Nat}(h:Ix a b out i c)(hd:d<10)(he:a.getD i 0=d+b.getD i 0+c):Ix a b (out++[d]) (i+1) 0:=by obtain⟨h1,h2,h3,h4⟩:=h;refine⟨by simp[h1],h2.snoc hd,V,?_⟩;grind[Xl,Gf]
theorem Ix.step1 {a b out:List Nat}{i c d:Nat}(h:Ix a b out i c)(hd:d<10)(he:a.getD i 0+10=d+b.getD i 0+c):Ix a b (out++[d]) (i+1) 1:=by obtain⟨h1,h2,h3,h4⟩:=h;refine⟨by simp[h1],h2.snoc hd,V,?_⟩;grind[Xl,Gf]
theorem Ix.fin {a b out:List Nat}{c:Nat}(h:Ix a b out a.length c)(ha:Dig a)(hb:Dig b)(tb:Trd b)(hv:val b≤val a):val out+val b=val a:=by
 obtain⟨h1,h2,h3,h4⟩:=h;have hl:b.length≤a.length:=by apply Classical.byContradiction;intro hc;obtain⟨n,hn⟩:∃n,b.length=n+1:=⟨b.length-1,Y⟩;have k1:=A07 tb hn;have k2:=Lt ha a.length;have k3:10^a.length≤10^n:=Nat.pow_le_pow_right V Y;grind[val]
 rw[A3j hl]at h4;have k1:Gf a a.length=val a:=rfl;have k2:=Lt h2 out.length;have k3:val out=Gf out out.length:=rfl;rw[h1]at k2 k3;rw[k1]at h4;have hc:c=0:=by grind
 grind
def E0 (n:Nat):List Nat:=if n=0 then[]else n%10::E0 (n/10)
decreasing_by omega
theorem Fj :E0 0=[]:=by rw[E0];rfl
theorem Jn {n:Nat}(h:n≠0):E0 n=n%10::E0 (n/10):=by rw[E0,if_neg h]
theorem Eo (n:Nat):val (E0 n)=n:=by
 induction n using Nat.strongRecOn with
 |_ n ih=>
  by_cases h:n=0;·subst h;rw[Fj];rfl
  ·grind[Jn,Jo]
theorem Hh (n:Nat):Dig (E0 n):=by induction n using Nat.strongRecOn<;>grind[Fj,Dig.nil,Jn,Dig.cons]
theorem A3m {n:Nat}(h:E0 n=[]):n=0:=by have:=Eo n;rw[h]at this;exact this.symm
theorem Vm {n:Nat}(h:n≠0):(E0 n).length≠0:=λe=>h<|A3m<|List.length_eq_zero_iff.1 e
theorem S1 (n:Nat):Trd (E0 n):=by
 induction n using Nat.strongRecOn with
 |_ n ih=>
  intro k hk;by_cases h:n=0;·grind[Fj]
  ·rw[Jn h]at hk⊢;by_cases h1:n/10=0;·grind[Fj]
   ·have hne:=Vm h1;rw[lCo]at hk;obtain⟨j,hj⟩:∃j,k=j+1:=⟨k-1,Y⟩;subst hj;exact ih (n/10) Y j Y
theorem Trd.tail {d:Nat}{l:List Nat}(h:Trd (d::l)):Trd l:=λn hn=>by have:=h (n+1) (by grind);exact this
theorem Td :∀{l:List Nat},Dig l→Trd l→E0 (val l)=l
 | [],_,_=>Fj|d::l,hd,ht=>by have ih:=Td (l:=l) (λx hx=>hd x<|List.mem_cons_of_mem _ hx) ht.tail;have hd0:d<10:=hd d Ax;grind[Jo,val_pos,Jn]
theorem Oj {l:List Nat}(h:Dig l):Nk l=E0 (val l):=by grind[A91,Td,A8b,Ad8]
theorem F7 {n k:Nat}(h:n<10^k):(E0 n).length≤k:=by apply Classical.byContradiction;intro hc;obtain⟨j,hj⟩:∃j,(E0 n).length=j+1:=⟨(E0 n).length-1,Y⟩;have h1:=A07 (S1 n) hj;rw[Eo]at h1;have h2:10^k≤10^j:=Nat.pow_le_pow_right V Y;omega
theorem A8e (n:Nat):(E0 n).getD 0 0=n%10:=by grind[Fj,Jn]
theorem less_dN (x y:Nat):Wn (E0 x) (E0 y)=decide (x<y):=by simp_all[A93,Hh,S1,Eo]
theorem A94 (n:Nat)(l:List Nat):val (List.replicate n 0++l)=val l*10^n:=by induction n<;>simp_all[List.replicate_succ,Jo,Nat.pow_succ,Nat.mul_comm,Nat.mul_assoc]
theorem Trd.zeros {l:List Nat}(h:Trd l)(hl:l.length≠0)(n:Nat):Trd (List.replicate n 0++l):=λk hk=>by rw[lAp,List.length_replicate]at hk;rw[List.getD_eq_getElem?_getD,List.getElem?_append_right L2,List.length_replicate,←List.getD_eq_getElem?_getD];exact h (k-n) Y
theorem ten_dN {x:Nat}(hx:x≠0)(n:Nat):List.replicate n 0++E0 x=E0 (x*10^n):=by rw[←Td ((Dig.zeros n).app<|Hh x) ((S1 x).zeros (Vm hx) n),A94,Eo]
structure R4 (a b out:List Nat)(i c:Nat):Prop where
 len:out.length=i
 dig:Dig out
 hc:c≤1
 v:val out+c*10^i=Gf a i+Gf b i
 e:i≤max a.length b.length∨(i=max a.length b.length+1∧c=0)
theorem R4.zero (a b:List Nat):R4 a b [] 0 0:=⟨Z,Dig.nil,V,by simp[Gf,val],.inl<|Nat.zero_le _⟩
theorem R4.step {a b out:List Nat}{i c:Nat}(h:R4 a b out i c)(ha:Dig a)(hb:Dig b)(hi:i<a.length∨i<b.length∨0<c):R4 a b (out++[(a.getD i 0+b.getD i 0+c)%10]) (i+1) ((a.getD i 0+b.getD i 0+c)/10):=by obtain⟨h1,h2,h3,h4,h5⟩:=h;have k1:=ha.get i;have k2:=hb.get i;refine⟨by simp[h1],h2.snoc<|Nat.mod_lt _ V,Y,?_,?_⟩;all_goals grind[Xl,Gf,Nat.div_add_mod]
theorem R4.fin {a b out:List Nat}{i c:Nat}(h:R4 a b out i c)(h1:¬i<a.length)(h2:¬i<b.length)(h3:¬0<c):val out=val a+val b:=by have:=h.v;grind[A3j]
structure ByI (a:List Nat)(y:Nat)(q:List Nat)(r k:Nat):Prop where
 hk:k≤a.length
 len:q.length+k=a.length
 dig:Dig q
 hr:r<y
 v:val q*y+r=val (a.drop k)
theorem ByI.zero (a:List Nat){y:Nat}(hy:0<y):ByI a y [] 0 a.length:=⟨Nat.le_refl _,Ax,Dig.nil,hy,by simp[val,Gf]⟩
theorem W5 {a:List Nat}{k:Nat}(h:k<a.length):a.drop k=a.getD k 0::a.drop (k+1):=by simp_all
theorem ByI.step {a:List Nat}{y:Nat}{q:List Nat}{r k d r':Nat}(h:ByI a y q r<|k+1)(ha:Dig a)(hr:r'<y)(hd:d*y+r'=a.getD k 0+10*r):ByI a y (d::q) r' k∧d<10:=by
 obtain⟨h1,h2,h3,h4,h5⟩:=h;have k1:=ha.get k;have hd10:d<10:=by apply Classical.byContradiction;intro hc;have:10*y≤d*y:=Nat.mul_le_mul_right _ Y;omega
 refine⟨⟨Y,L2,h3.cons hd10,hr,?_⟩,hd10⟩;grind[W5,Jo]
theorem ByI.fin {a:List Nat}{y:Nat}{q:List Nat}{r:Nat}(h:ByI a y q r 0):val q=val a/y∧r=val a%y:=by
 obtain⟨h1,h2,h3,h4,h5⟩:=h;rw[List.drop_zero]at h5;have hy:0<y:=Y;refine⟨?_,?_⟩;·rw[←h5,Nat.mul_comm,Nat.mul_add_div hy,Nat.div_eq_of_lt h4,Nat.add_zero]
 grind[Nat.mul_comm,Nat.mul_add_mod,Nat.mod_eq_of_lt]
end Go.Abs
namespace Go.Abs
open Go.RowKit
def As (P:Program)(W0:World)(f:FuncId)(args:List AVal)(Q:AVal→Prop):Prop:=
 Ed P f∧∀(F:Nat→Prop) (w:World) (cargs:List Value),Ad W0 F [] [] w→Aa F [] [] w args cargs→
  Calls P f cargs.toArray w λe w'=>∃v cv,Q v∧e= .returned cv∧Rep F [] [] w' v cv∧Ad W0 F [] [] w'∧Ext [] [] w [] [] w'
section
variable {P : Program} {W0 : World} {G : List (Nat × AVal)}
theorem As.of {f:FuncId}{args:List AVal}{v:AVal}(h:A5 P W0 f args [] v []):As P W0 f args (λx=>x=v):=by refine⟨h.1,λF w cargs hh hr=>Calls.mono (h.2 F [] w cargs hh hr) λe w' he=>?_⟩;obtain⟨cv,bs',rfl,h1,h2,h3⟩:=he;have hb:bs'=[]:=List.length_eq_zero_iff.1 (by simpa using h2.len);grind
theorem As.mono {f:FuncId}{args:List AVal}{Q Q':AVal→Prop}(h:As P W0 f args Q)(hq:∀v,Q v→Q' v):As P W0 f args Q':=⟨h.1,λF w cargs hh hr=>Calls.mono (h.2 F w cargs hh hr) λ_ _ ⟨v,cv,k1,k2⟩=>⟨v,cv,hq v k1,k2⟩⟩
theorem As.at {f:FuncId}{args:List AVal}{Q:AVal→Prop}(h:As P W0 f args Q)(ha:Ab 0 args=true)(hq:∀v,Q v→blw 0 v=true){F:Nat→Prop}{bs:List Nat}{H:Hz}{w:World}{cargs:List Value}(hh:Ad W0 F bs H w)(hr:Aa F bs H w args cargs):
 Calls P f cargs.toArray w λe w'=>∃v cv,Q v∧e= .returned cv∧Rep F bs H w' v cv∧Ad W0 F bs H w'∧Ext bs H w bs H w':=by
 let F':Nat→Prop:=λb=>F b∨b∈bs;have hh0:Ad W0 F' [] [] w:=by
  refine⟨Z,hh.base,λb hb=>(List.not_mem_nil hb).elim,List.nodup_nil,λb hb=>?_,λi o b hi=>by simp at hi⟩;rcases hb with hb|hb;·obtain⟨q1,q2,_⟩:=hh.forb b hb;grind
  ·exact⟨(hh.low b hb).1,(hh.low b hb).2,List.not_mem_nil⟩
 have hdown:A7l F F' bs [] H [] id 0:=⟨λj hj=>by omega,λj hj=>by omega,λb hb=>(List.not_mem_nil hb).elim,λb hb=>hb⟩;have hr0:Aa F' [] [] w args cargs:=Aa.down hdown args cargs ha (by grind[Cd]);refine Calls.mono (h.2 F' w cargs hh0 hr0) λe w' he=>?_;obtain⟨v,cv,k1,rfl,k3,k4,k5⟩:=he;have hup:Up F F' bs [] H [] id:=⟨λj o ho=>by simp at ho,λj b hb=>by simp at hb,λb _ hf=>⟨λhm=>hf<|.inr hm,λhF=>hf<|.inl hF⟩⟩;have hz:∀b,b<w.heap.size→D4 w' b=D4 w b:=λb hb'=>by unfold D4;rw[k5.block b hb' Ax]
 have hext:Ext bs H w bs H w':=by refine⟨k5.size,λk hk _=>k5.block k hk Ax,λk hk=>.inl hk,λi o ho=>⟨o,ho,?_⟩⟩;cases o with|dead=>rfl|iter s p=>exact .inr ⟨s,p,rfl,rfl⟩|mp es=>exact .inr ⟨es,rfl,rfl⟩|cells T cs op=>cases op with|false=>exact .inr ⟨T,cs,rfl,rfl,rfl⟩|true=>exact .inr ⟨T,cs,rfl,.inr ⟨rfl,rfl,λb hb=>hz b (hh.low b<|mGe hb).2⟩⟩
 refine⟨v,cv,k1,Z,?_,?_,hext⟩;·have:=Rep.up hup v cv k3;grind[Jt]
 ·exact⟨hh.len,k4.base,λb hb=>⟨(hh.low b hb).1,nLl (hh.low b hb).2 k5.size⟩,hh.nodup,λb hb=>by
  obtain⟨q1,q2,q3⟩:=hh.forb b hb
  exact⟨q1,nLl q2 k5.size,q3⟩,λi o b hi hb=>(hh.obj i o b hi hb).ext hext (k5.block b (hh.low b (mGe hb)).2 Ax)⟩
theorem As.of_fnM {f:Nat}{x:AFn}(hf:Gw P f=some x){args:List AVal}{Q:AVal→Prop}(hl:args.length≤4094){n:Nat}(hn:args.length+(x.n-args.length)=n)
 (h:ExM P W0 0 x.code ⟨.al<|Ej 0 args,[],n⟩ λe s=>∃v,Q v∧Iy x.res 0 v [] e s):As P W0 f args Q:=by
 obtain⟨fn,c,h1,h2,h3,h4,h5,h6⟩:=Jp hf;refine⟨⟨fn,c,h1,h2,h5⟩,λF w cargs hh hr=>?_⟩;have hrs:=G7 hh hr hl fn.ntmps;have hrs':RS W0 F [] ⟨.al<|Ej 0 args,[],n⟩ {tmps:=cargs.toArray++Array.replicate (fn.ntmps-cargs.toArray.size) undef,defers:=[]} w:=
  ⟨hrs.heap,A35,λt u hu=>hrs.env t u (by
   rw[Ds args 0 .leaf t Y];have hu:lk t (Ej 0 args)=some u:=hu;rw[Je]at hu
   grind)⟩
 refine calls_of_wp h1 h2<|h c h3 F [] _ w hrs' [] [] w Z (Ext.refl _ _ _) _ λe s' bs' a' w' hk hrs hext hd=>?_;obtain⟨v,hQ,hne,vs,hvs,hlv⟩:=hk;obtain⟨cv,r1,r2⟩:=G5 hrs<|L9 h4 hvs;obtain⟨bs'',r3,r4,r5⟩:=P1 (H0:=[]) hrs.heap hext r2 hlv;have hb:bs''=[]:=List.length_eq_zero_iff.1 (by simpa using r4.len);subst hb;have fin:bodyPost P fn (λe w'=>∃v cv,Q v∧e= .returned cv∧Rep F [] [] w' v cv∧Ad W0 F [] [] w'∧Ext [] [] w [] [] w') .ret a' w':=⟨hd,cv,r1,v,cv,hQ,rfl,r3,r4,r5⟩;cases e with|normal=>exact fin|ret=>exact fin|exit id=>exact hne.elim
variable {m : Nat} {l : List (Nat × AVal)} {H H' : Hz} {n : Nat} {K : St → Prop} {r : List AOper}
theorem C0 (hg:Gr P W0 G){g:Option (Nat×Bool)}(hgd:Gok g l){d:Nat}{op:AOp}{f:Nat}{args:List AVal}{Q:AVal→Prop}(h:aop G ⟨.al l,H,n⟩ op=some (.call f args))(hd:(Nat.blt d n&&Nat.blt d 4094)=true)(ha:Ab 0 args=true)(hc:As P W0 f args Q)(hq:∀v,Q v→blw 0 v=true)
 (k:∀v,Q v→Af P W0 G m r ⟨.al ((d,v)::l),H,n⟩ K):Af P W0 G m (⟨some d,g,op⟩::r) ⟨.al l,H,n⟩ K:=λops i hco F bs a w hs bs0 H0 w0 hm he Q0 hq0=>by
 obtain⟨x,xs,hdr,hx,hxs⟩:=Eh hco;have hi:ops[i]?=some x:=by have h0:=congrArg (λl=>l[0]?) hdr;grind
 have hr:ops.toList.drop (i+1)=xs:=by have:=congrArg (List.drop 1) hdr;grind[List.drop_drop]
 simp only[lCo,List.range'_succ,wpOps,hi];have hdst:x.dst=some d:=(D9 hx).symm;have hop:∃o',Ar P x.op=some o'∧o'=op:=by grind[Be]
 obtain⟨o',ho',rfl⟩:=hop;have hg':Cj ops ⟨.al l,H,n⟩ x.guard=some true:=by
  unfold Be at hx;cases hgx:D7 ops x.guard with
  |none=>rw[hgx]at hx;cases hx
  |some gx=>
   rw[hgx]at hx;simp only[ho']at hx;injection hx with hx;injection hx with _ hx _;subst hx;cases hxg:x.guard with
   |none=>rfl
   |some gw=>
    obtain⟨j,want⟩:=gw;rw[hxg]at hgx;simp only[D7]at hgx;cases hd':(ops[j]?).bind (·.dst)with
    |none=>rw[hd']at hgx;cases hgx
    |some d'=>rw[hd']at hgx;simp only[iS]at hgx;subst hgx;have hl:(Env.al l).get d'=some (.bool want):=hgd;simp only[Cj,hd',hl];cases want<;>rfl
 rw[Oo hs hg'];simp only[if_true];refine .inl ?_;have hok:=Xc (P:=P) hg.g hs ho' h;obtain⟨cargs,h1,h2⟩:=hok hc.1;unfold Oper.wp;rw[h1,Oper.upon_enter];refine Calls.mono (hc.at ha hq hs.heap h2) λe w' he'=>?_;obtain⟨v,cv,k1,rfl,k3,k4,k5⟩:=he';obtain⟨s',hK,hrs,hH⟩:=hs.put (dst:=x.dst) (K:=λs'=>s'=⟨.al ((d,v)::l),H,n⟩) k3 k4 k5 (by rw[hdst];exact⟨hd,rfl⟩);subst hK;have hput:∀(dst:Option Tmp) (v:Value),(a.put dst v).defers=a.defers:=λdst v=>Yv;exact k v k1 ops (i+1) (by grind) F bs _ w' hrs bs0 H0 w0 hm (he.trans k5) Q0 λs2 bs2 a2 w2 e1 e2 e3 e4=>hq0 s2 bs2 a2 w2 e1 e2 e3<|e4.trans<|hput _ _
end
theorem Bj {x y:Int}(h1:-9223372036854775808≤x)(h2:x≤9223372036854775807)(h:x=y):AVal.int .i64 (IntKind.i64.wrap x)= .int .i64 y:=by rw[w64 h1 h2,h]
theorem iE {k:IntKind}{x y:Int}(h:x=y):AVal.int k x= .int k y:=by rw[h]
section
variable {P : Program} {W0 : World} {G : List (Nat × AVal)} {m : Nat} {l : List (Nat × AVal)} {H H' : Hz} {n : Nat} {K : St → Prop} {r : List AOper} {g : Option (Nat × Bool)} {d : Nat} {op : AOp} {side : List (Int × Int)}
theorem mV {v:AVal}(h:aop G ⟨.al l,H,n⟩ op=some (.val v H' []))(k:Af P W0 G m r ⟨.al ((d,v)::l),H',n⟩ K)(hg:Gr P W0 G:=by assumption)(hgd:Gok g l:=by first|exact gN|exact gS rfl)(hd:(Nat.blt d n&&Nat.blt d 4094)=true:=by rfl):Af P W0 G m (⟨some d,g,op⟩::r) ⟨.al l,H,n⟩ K:=Ac hg hgd h hd O k
theorem mS {v:AVal}(h:aop G ⟨.al l,H,n⟩ op=some (.val v H' side))(k:Af P W0 G m r ⟨.al ((d,v)::l),H',n⟩ K)(hg:Gr P W0 G:=by assumption)(hgd:Gok g l:=by first|exact gN|exact gS rfl)(hd:(Nat.blt d n&&Nat.blt d 4094)=true:=by rfl)(hs:Ag side:=by first|exact trivial|decide|(simp only[B3,Ci,Ag,and_true,Df,lCo,lNi,lAp];omega)|(simp only[B3,Ci,Ag,and_true,C6,List.length_map];omega)):Af P W0 G m (⟨some d,g,op⟩::r) ⟨.al l,H,n⟩ K:=Ac hg hgd h hd hs k
theorem mG {t:Nat}{want:Bool}(k:Af P W0 G m r ⟨.al ((d,.tup [])::l),H,n⟩ K)(hg:Gr P W0 G:=by assumption)(h:lk t l=some (.bool<|!want):=by rfl)(hd:(Nat.blt d n&&Nat.blt d 4094)=true:=by rfl):Af P W0 G m (⟨some d,some (t,want),op⟩::r) ⟨.al l,H,n⟩ K:=mGN hg h hd k
theorem mK {v v0:AVal}(h:aop G ⟨.al l,H,n⟩ op=some (.val v0 H' []))(hv:v0=v)(k:Af P W0 G m r ⟨.al ((d,v)::l),H',n⟩ K)(hg:Gr P W0 G:=by assumption)(hgd:Gok g l:=by first|exact gN|exact gS rfl)(hd:(Nat.blt d n&&Nat.blt d 4094)=true:=by rfl):Af P W0 G m (⟨some d,g,op⟩::r) ⟨.al l,H,n⟩ K:=mKv hg hgd h hd O hv k
theorem mKs {v v0:AVal}(h:aop G ⟨.al l,H,n⟩ op=some (.val v0 H' side))(hv:v0=v)(k:Af P W0 G m r ⟨.al ((d,v)::l),H',n⟩ K)(hg:Gr P W0 G:=by assumption)(hgd:Gok g l:=by first|exact gN|exact gS rfl)(hd:(Nat.blt d n&&Nat.blt d 4094)=true:=by rfl)(hs:Ag side:=by first|exact trivial|decide|(simp only[B3,Ci,Ag,and_true,Df,lCo,lNi,lAp];omega)|(simp only[B3,Ci,Ag,and_true,C6,List.length_map];omega)):Af P W0 G m (⟨some d,g,op⟩::r) ⟨.al l,H,n⟩ K:=mKv hg hgd h hd hs hv k
theorem mI (x:Int){y:Int}(h:aop G ⟨.al l,H,n⟩ op=some (.val (.int .i64<|IntKind.i64.wrap y) H' side))(k:Af P W0 G m r ⟨.al ((d,.int .i64 x)::l),H',n⟩ K)(hg:Gr P W0 G:=by assumption)(hgd:Gok g l:=by first|exact gN|exact gS rfl)(hd:(Nat.blt d n&&Nat.blt d 4094)=true:=by rfl)(hs:Ag side:=by first|exact trivial|decide|(simp only[B3,Ci,Ag,and_true,Df,lCo,lNi,lAp];omega)|(simp only[B3,Ci,Ag,and_true,C6,List.length_map];omega))
 (h1:-9223372036854775808≤y:=by omega) (h2:y≤9223372036854775807:=by omega) (h3:y=x:=by omega):Af P W0 G m (⟨some d,g,op⟩::r) ⟨.al l,H,n⟩ K:=mKv hg hgd h hd hs (Bj h1 h2 h3) k
theorem mT {b:Bool}(h:aop G ⟨.al l,H,n⟩ op=some (.val (.bool b) H []))(k:Af P W0 G m r ⟨.al ((d,.bool true)::l),H,n⟩ K)(hg:Gr P W0 G:=by assumption)(hgd:Gok g l:=by first|exact gN|exact gS rfl)(hd:(Nat.blt d n&&Nat.blt d 4094)=true:=by rfl)(hb:b=true:=by first|exact decide_eq_true Y|(rw[beq_iff_eq];omega)|(rw[bne_iff_ne];omega)|decide):Af P W0 G m (⟨some d,g,op⟩::r) ⟨.al l,H,n⟩ K:=mBk hg hgd h hd hb k
theorem mF {b:Bool}(h:aop G ⟨.al l,H,n⟩ op=some (.val (.bool b) H []))(k:Af P W0 G m r ⟨.al ((d,.bool false)::l),H,n⟩ K)(hg:Gr P W0 G:=by assumption)(hgd:Gok g l:=by first|exact gN|exact gS rfl)(hd:(Nat.blt d n&&Nat.blt d 4094)=true:=by rfl)(hb:b=false:=by first|exact dF Y|(rw[bFn];omega)|(rw[bNf];omega)|decide):Af P W0 G m (⟨some d,g,op⟩::r) ⟨.al l,H,n⟩ K:=mBk hg hgd h hd hb k
theorem mC {f:Nat}{args:List AVal}{v:AVal}(h:aop G ⟨.al l,H,n⟩ op=some (.call f args))(hc:A5 P W0 f args H v H')(k:Af P W0 G m r ⟨.al ((d,v)::l),H',n⟩ K)(hg:Gr P W0 G:=by assumption)(hgd:Gok g l:=by first|exact gN|exact gS rfl)(hd:(Nat.blt d n&&Nat.blt d 4094)=true:=by rfl):Af P W0 G m (⟨some d,g,op⟩::r) ⟨.al l,H,n⟩ K:=G1 hg hgd h hd hc k
theorem m2 {d0 d1:Nat}{o0 o1:AOp}{v0 v1:AVal}{g0 g1:Option (Nat×Bool)}{H0 H1 H2:Hz}(h0:aop G ⟨.al<|l,H0,n⟩ o0=some (.val v0 H1 []))(h1:aop G ⟨.al ((d0,v0)::l),H1,n⟩ o1=some (.val v1 H2 []))(k:Af P W0 G m r ⟨.al ((d1,v1)::(d0,v0)::l),H2,n⟩ K)(hg:Gr P W0 G:=by assumption)(k0:Gok g0 (l):=by first|exact gN|exact gS rfl)(b0:(Nat.blt d0 n&&Nat.blt d0 4094)=true:=by rfl)(k1:Gok g1 ((d0,v0)::l):=by first|exact gN|exact gS rfl)(b1:(Nat.blt d1 n&&Nat.blt d1 4094)=true:=by rfl):Af P W0 G m (⟨some d0,g0,o0⟩::⟨some d1,g1,o1⟩::r) ⟨.al l,H0,n⟩ K:=Ac hg k0 h0 b0 O<|Ac hg k1 h1 b1 O<|k
theorem m3 {d0 d1 d2:Nat}{o0 o1 o2:AOp}{v0 v1 v2:AVal}{g0 g1 g2:Option (Nat×Bool)}{H0 H1 H2 H3:Hz}(h0:aop G ⟨.al<|l,H0,n⟩ o0=some (.val v0 H1 []))(h1:aop G ⟨.al ((d0,v0)::l),H1,n⟩ o1=some (.val v1 H2 []))(h2:aop G ⟨.al ((d1,v1)::(d0,v0)::l),H2,n⟩ o2=some (.val v2 H3 []))(k:Af P W0 G m r ⟨.al ((d2,v2)::(d1,v1)::(d0,v0)::l),H3,n⟩ K)(hg:Gr P W0 G:=by assumption)(k0:Gok g0 (l):=by first|exact gN|exact gS rfl)(b0:(Nat.blt d0 n&&Nat.blt d0 4094)=true:=by rfl)(k1:Gok g1 ((d0,v0)::l):=by first|exact gN|exact gS rfl)(b1:(Nat.blt d1 n&&Nat.blt d1 4094)=true:=by rfl)(k2:Gok g2 ((d1,v1)::(d0,v0)::l):=by first|exact gN|exact gS rfl)(b2:(Nat.blt d2 n&&Nat.blt d2 4094)=true:=by rfl):Af P W0 G m (⟨some d0,g0,o0⟩::⟨some d1,g1,o1⟩::⟨some d2,g2,o2⟩::r) ⟨.al l,H0,n⟩ K:=Ac hg k0 h0 b0 O<|Ac hg k1 h1 b1 O<|Ac hg k2 h2 b2 O<|k
theorem m4 {d0 d1 d2 d3:Nat}{o0 o1 o2 o3:AOp}{v0 v1 v2 v3:AVal}{g0 g1 g2 g3:Option (Nat×Bool)}{H0 H1 H2 H3 H4:Hz}(h0:aop G ⟨.al<|l,H0,n⟩ o0=some (.val v0 H1 []))(h1:aop G ⟨.al ((d0,v0)::l),H1,n⟩ o1=some (.val v1 H2 []))(h2:aop G ⟨.al ((d1,v1)::(d0,v0)::l),H2,n⟩ o2=some (.val v2 H3 []))(h3:aop G ⟨.al ((d2,v2)::(d1,v1)::(d0,v0)::l),H3,n⟩ o3=some (.val v3 H4 []))(k:Af P W0 G m r ⟨.al ((d3,v3)::(d2,v2)::(d1,v1)::(d0,v0)::l),H4,n⟩ K)(hg:Gr P W0 G:=by assumption)(k0:Gok g0 (l):=by first|exact gN|exact gS rfl)(b0:(Nat.blt d0 n&&Nat.blt d0 4094)=true:=by rfl)(k1:Gok g1 ((d0,v0)::l):=by first|exact gN|exact gS rfl)(b1:(Nat.blt d1 n&&Nat.blt d1 4094)=true:=by rfl)(k2:Gok g2 ((d1,v1)::(d0,v0)::l):=by first|exact gN|exact gS rfl)(b2:(Nat.blt d2 n&&Nat.blt d2 4094)=true:=by rfl)(k3:Gok g3 ((d2,v2)::(d1,v1)::(d0,v0)::l):=by first|exact gN|exact gS rfl)(b3:(Nat.blt d3 n&&Nat.blt d3 4094)=true:=by rfl):Af P W0 G m (⟨some d0,g0,o0⟩::⟨some d1,g1,o1⟩::⟨some d2,g2,o2⟩::⟨some d3,g3,o3⟩::r) ⟨.al l,H0,n⟩ K:=Ac hg k0 h0 b0 O<|Ac hg k1 h1 b1 O<|Ac hg k2 h2 b2 O<|Ac hg k3 h3 b3 O<|k
theorem x1 {d0:Nat}{o0:AOp}{v0:AVal}{g0:Option (Nat×Bool)}{H0 H1:Hz}(h0:aop G ⟨.al<|l,H0,n⟩ o0=some (.val v0 H1 []))(k:K ⟨.al ((d0,v0)::l),H1,n⟩)(hg:Gr P W0 G:=by assumption)(k0:Gok g0 (l):=by first|exact gN|exact gS rfl)(b0:(Nat.blt d0 n&&Nat.blt d0 4094)=true:=by rfl):Af P W0 G m (⟨some d0,g0,o0⟩::[]) ⟨.al l,H0,n⟩ K:=Ac hg k0 h0 b0 O<|Ba k
theorem x2 {d0 d1:Nat}{o0 o1:AOp}{v0 v1:AVal}{g0 g1:Option (Nat×Bool)}{H0 H1 H2:Hz}(h0:aop G ⟨.al<|l,H0,n⟩ o0=some (.val v0 H1 []))(h1:aop G ⟨.al ((d0,v0)::l),H1,n⟩ o1=some (.val v1 H2 []))(k:K ⟨.al ((d1,v1)::(d0,v0)::l),H2,n⟩)(hg:Gr P W0 G:=by assumption)(k0:Gok g0 (l):=by first|exact gN|exact gS rfl)(b0:(Nat.blt d0 n&&Nat.blt d0 4094)=true:=by rfl)(k1:Gok g1 ((d0,v0)::l):=by first|exact gN|exact gS rfl)(b1:(Nat.blt d1 n&&Nat.blt d1 4094)=true:=by rfl):Af P W0 G m (⟨some d0,g0,o0⟩::⟨some d1,g1,o1⟩::[]) ⟨.al l,H0,n⟩ K:=Ac hg k0 h0 b0 O<|Ac hg k1 h1 b1 O<|Ba k
theorem x3 {d0 d1 d2:Nat}{o0 o1 o2:AOp}{v0 v1 v2:AVal}{g0 g1 g2:Option (Nat×Bool)}{H0 H1 H2 H3:Hz}(h0:aop G ⟨.al<|l,H0,n⟩ o0=some (.val v0 H1 []))(h1:aop G ⟨.al ((d0,v0)::l),H1,n⟩ o1=some (.val v1 H2 []))(h2:aop G ⟨.al ((d1,v1)::(d0,v0)::l),H2,n⟩ o2=some (.val v2 H3 []))(k:K ⟨.al ((d2,v2)::(d1,v1)::(d0,v0)::l),H3,n⟩)(hg:Gr P W0 G:=by assumption)(k0:Gok g0 (l):=by first|exact gN|exact gS rfl)(b0:(Nat.blt d0 n&&Nat.blt d0 4094)=true:=by rfl)(k1:Gok g1 ((d0,v0)::l):=by first|exact gN|exact gS rfl)(b1:(Nat.blt d1 n&&Nat.blt d1 4094)=true:=by rfl)(k2:Gok g2 ((d1,v1)::(d0,v0)::l):=by first|exact gN|exact gS rfl)(b2:(Nat.blt d2 n&&Nat.blt d2 4094)=true:=by rfl):Af P W0 G m (⟨some d0,g0,o0⟩::⟨some d1,g1,o1⟩::⟨some d2,g2,o2⟩::[]) ⟨.al l,H0,n⟩ K:=Ac hg k0 h0 b0 O<|Ac hg k1 h1 b1 O<|Ac hg k2 h2 b2 O<|Ba k
theorem x4 {d0 d1 d2 d3:Nat}{o0 o1 o2 o3:AOp}{v0 v1 v2 v3:AVal}{g0 g1 g2 g3:Option (Nat×Bool)}{H0 H1 H2 H3 H4:Hz}(h0:aop G ⟨.al<|l,H0,n⟩ o0=some (.val v0 H1 []))(h1:aop G ⟨.al ((d0,v0)::l),H1,n⟩ o1=some (.val v1 H2 []))(h2:aop G ⟨.al ((d1,v1)::(d0,v0)::l),H2,n⟩ o2=some (.val v2 H3 []))(h3:aop G ⟨.al ((d2,v2)::(d1,v1)::(d0,v0)::l),H3,n⟩ o3=some (.val v3 H4 []))(k:K ⟨.al ((d3,v3)::(d2,v2)::(d1,v1)::(d0,v0)::l),H4,n⟩)(hg:Gr P W0 G:=by assumption)(k0:Gok g0 (l):=by first|exact gN|exact gS rfl)(b0:(Nat.blt d0 n&&Nat.blt d0 4094)=true:=by rfl)(k1:Gok g1 ((d0,v0)::l):=by first|exact gN|exact gS rfl)(b1:(Nat.blt d1 n&&Nat.blt d1 4094)=true:=by rfl)(k2:Gok g2 ((d1,v1)::(d0,v0)::l):=by first|exact gN|exact gS rfl)(b2:(Nat.blt d2 n&&Nat.blt d2 4094)=true:=by rfl)(k3:Gok g3 ((d2,v2)::(d1,v1)::(d0,v0)::l):=by first|exact gN|exact gS rfl)(b3:(Nat.blt d3 n&&Nat.blt d3 4094)=true:=by rfl):Af P W0 G m (⟨some d0,g0,o0⟩::⟨some d1,g1,o1⟩::⟨some d2,g2,o2⟩::⟨some d3,g3,o3⟩::[]) ⟨.al l,H0,n⟩ K:=Ac hg k0 h0 b0 O<|Ac hg k1 h1 b1 O<|Ac hg k2 h2 b2 O<|Ac hg k3 h3 b3 O<|Ba k
theorem mn {s:St}(h:K s):Af P W0 G m [] s K:=Ba h
end
section
variable {P : Program} {W0 : World} {G : List (Nat × AVal)} {m : Nat} {s : St} {K : Ai → St → Prop}
theorem sq {x y:ACode}(h:ExM P W0 m x s λe s'=>e.then s' (λs'=>ExM P W0 m y s' K) K):ExM P W0 m (.seq x y) s K:=ExM.seq h
theorem oM {x:List AOper}(h:Af P W0 G m x s<|K .normal)(hg:Gr P W0 G:=by assumption):ExM P W0 m (.ops x) s K:=ExM.ops hg h
theorem sO {x:List AOper}{y:ACode}(h:Af P W0 G m x s λs'=>Ai.then .normal s' (λs'=>ExM P W0 m y s' K) K)(hg:Gr P W0 G:=by assumption):ExM P W0 m (.seq (.ops x) y) s K:=ExM.seq<|ExM.ops hg h
theorem bM {id:Nat}{x:ACode}(h:ExM P W0 m x s<|Ai.inBlock id K):ExM P W0 m (.block id x) s K:=ExM.block h
theorem kM (h:K .normal s):ExM P W0 m .skip s K:=ExM.skip h
theorem cT {c:AOpd}{x y:ACode}(hv:ev G s c=some (.bool true))(h:ExM P W0 m x s K)(hg:Gr P W0 G:=by assumption):ExM P W0 m (.cond c x y) s K:=ExM.condT hg hv h
theorem cF {c:AOpd}{x y:ACode}(hv:ev G s c=some (.bool false))(h:ExM P W0 m y s K)(hg:Gr P W0 G:=by assumption):ExM P W0 m (.cond c x y) s K:=ExM.condF hg hv h
end
section
variable {rs : List RV} {n : Nat} {v : AVal} {H' : Hz} {e : Ai} {s : St} {vs : List AVal}
theorem pS (he:(match e with|.exit _=>False|_=>True):=by trivial)(h1:Ii s rs=some vs:=by rfl)(h2:C9 vs=v:=by rfl)(h3:s.H=H':=by rfl):Iy rs n v H' e s:=A6 he h1 h2 h3
theorem pL (he:(match e with|.exit _=>False|_=>True):=by trivial)(h1:Ii s rs=some vs:=by rfl)(h2:B9 n (s.H.take n)=true:=by rfl)(h3:frz s.H n 100 (C9 vs)=some v:=by rfl)(h4:s.H.take n=H':=by rfl):Iy rs n v H' e s:=A4 he h1 h2 100 h3 h4
end
mutual
def noId (i : Nat) : AVal → Bool
  | .agg cs => Nn i cs
  | .tup cs => Nn i cs
  | .row _ es => Nn i es
  | .hsl _ id _ _ _ => !(Nat.beq id i)
  | .ptr id _ => !(Nat.beq id i)
  | .mref id => !(Nat.beq id i)
  | .optr id _ _ => !(Nat.beq id i)
  | .eptr e _ => noId i e
  | .fn _ a c => cond (Nn i a) (Nn i c) false
  | .iface _ x => noId i x
  | _ => true
def Nn (i : Nat) : List AVal → Bool
  | [] => true
  | v :: r => cond (noId i v) (Nn i r) false
end
def A9x (i:Nat):HObj→Bool
 |.cells _ cs _=>Nn i cs|_=>true
section
variable {F : Nat → Prop} {bs : List Nat} {H : Hz} {w : World} {i : Nat} {o' : HObj}
theorem M4 {a b:Nat}(h:(!(Nat.beq a b))=true):a≠b:=λe=>by simp_all
theorem Lu {id:Nat}(h:id≠i):(H.set i o')[id]?=H[id]?:=List.getElem?_set_ne<|Ne.symm h
mutual
theorem Rep.noId : ∀ (a : AVal) (v : Value), Rep F bs H w a v → noId i a = true → Rep F bs (H.set i o') w a v
  | .bool _, _, hr, _ | .int _ _, _, hr, _ | .str _, _, hr, _ | .nilSl, _, hr, _ | .emp, _, hr, _ | .nilPtr, _, hr, _ | .nilFn, _, hr, _ | .nilMp, _, hr, _ | .nilIf, _, hr, _ => Aa5
  | .agg cs, _, hr, hb => by
    simp only [Rep] at hr ⊢
    obtain ⟨vs, hv, hl⟩ := hr
    exact ⟨vs, hv, Aa.noId cs vs hl hb⟩
  | .tup cs, _, hr, hb => by
    simp only [Rep] at hr ⊢
    obtain ⟨vs, hv, hl⟩ := hr
    exact ⟨vs, hv, Aa.noId cs vs hl hb⟩
  | .row k es, _, hr, hb => by
    simp only [Rep] at hr ⊢
    obtain ⟨a, cap, vs, hv, hl, hk, hrow⟩ := hr
    exact ⟨a, cap, vs, hv, Aa.noId es vs hl hb, hk, hrow⟩
  | .hsl k id off len cap, _, hr, hb => by
    simp only [Rep] at hr ⊢
    have hne := M4 hb
    refine ⟨hr.1, ?_⟩
    unfold Ce
    rw [Lu hne]
    exact hr.2
  | .ptr id off, _, hr, hb => by
    simp only [Rep] at hr ⊢
    have hne := M4 hb
    refine ⟨hr.1, ?_⟩
    unfold Ey
    rw [Lu hne]
    exact hr.2
  | .mref id, _, hr, hb => by
    simp only [Rep] at hr ⊢
    have hne := M4 hb
    refine ⟨hr.1, ?_⟩
    unfold H5
    rw [Lu hne]
    exact hr.2
  | .optr id off len, _, hr, hb => by
    simp only [Rep] at hr ⊢
    have hne := M4 hb
    refine ⟨hr.1, ?_⟩
    unfold Fq
    rw [Lu hne]
    exact hr.2
  | .eptr e off, _, hr, hb => by
    simp only [Rep] at hr ⊢
    obtain ⟨b, base, u, hv, he, h⟩ := hr
    exact ⟨b, base, u, hv, Rep.noId e u he hb, h⟩
  | .fn f first cap, _, hr, hb => by
    simp only [Rep] at hr ⊢
    obtain ⟨fs, cs, hv, h1, h2⟩ := hr
    simp only [Abs.noId] at hb
    cases hf : Nn i first with
    | false => rw [hf] at hb; cases hb
    | true => rw [hf] at hb; exact ⟨fs, cs, hv, Aa.noId first fs h1 hf, Aa.noId cap cs h2 hb⟩
  | .iface t x, _, hr, hb => by
    simp only [Rep] at hr ⊢
    obtain ⟨u, hv, hx⟩ := hr
    exact ⟨u, hv, Rep.noId x u hx hb⟩
theorem Aa.noId : ∀ (az : List AVal) (vs : List Value), Aa F bs H w az vs → Nn i az = true → Aa F bs (H.set i o') w az vs
  | [], _, hr, _ => bY125
  | a :: az, _, hr, hb => by
    simp only [Aa] at hr ⊢
    obtain ⟨u, us, hv, h1, h2⟩ := hr
    simp only [Nn] at hb
    cases ha : Abs.noId i a with
    | false => rw [ha] at hb; cases hb
    | true => rw [ha] at hb; exact ⟨u, us, hv, Rep.noId a u h1 ha, Aa.noId az us h2 hb⟩
end
def A1u (i:Nat)(H:Hz):Bool:=H.all<|A9x i
theorem Ad.close {W0:World}(hh:Ad W0 F bs H w){T:TypeId}{cs:List AVal}(ho:H[i]?=some (.cells T cs true))(hT:Nat.blt T 1000000=true)(hn:A1u i H=true):Ad W0 F bs (H.set i<|.cells T cs false) w:=by
 have hall:∀(j:Nat) (o:HObj),H[j]?=some o→A9x i o=true:=λj o hj=>List.all_eq_true.1 hn o<|mGe hj;refine⟨by simp[hh.len],hh.base,hh.low,hh.nodup,hh.forb,λj o b hj hb=>?_⟩;by_cases hij:i=j;·subst hij;rw[List.getElem?_set_self (List.getElem?_eq_some_iff.1 ho).1]at hj;injection hj with hj;subst hj;obtain⟨vs,rest,fr,h1,h2,h3⟩:=hh.obj i _ b ho hb;obtain rfl:=h3 hT;rw[Ij hT]at h1;exact⟨vs,rest,(0,0),h1,Aa.noId cs vs h2<|hall i _ ho,λj _=>by simp⟩
 ·rw[List.getElem?_set_ne hij]at hj;have h0:=hh.obj j o b hj hb;have hn:=hall j o hj;cases o with
  |dead=>trivial|iter s p=>exact h0|mp es=>exact h0
  |cells T' cs' op=>
   cases op with
   |false=>obtain⟨vs,rest,fr,h1,h2,h3⟩:=h0;exact⟨vs,rest,fr,h1,Aa.noId cs' vs h2 hn,h3⟩
   |true=>obtain⟨vs,rest,fr,h1,h2,h3⟩:=h0;exact⟨vs,rest,fr,h1,Aa.noId cs' vs h2 hn,h3⟩
def ClV (i n:Nat)(v2 v:AVal):Prop:=v2=v∧(noId i v=true∨∃k len cap,v= .hsl k i 0 len cap∧len*k=n)
structure Cl (m i:Nat)(s1 s2:St):Prop where
 le:m≤i
 n:s1.n=s2.n
 H:∃T cs,s2.H[i]?=some (.cells T cs true)∧Nat.blt T 1000000=true∧A1u i s2.H=true∧s1.H=s2.H.set i (.cells T cs false)∧∀t v,s1.env.get t=some v→∃v2,s2.env.get t=some v2∧ClV i cs.length v2 v
theorem RS.close {W0:World}{s1 s2:St}{a:Act}(hs:RS W0 F bs s2 a w){m:Nat}(hc:Cl m i s1 s2){bs0:List Nat}{H0:Hz}{w0:World}(he:Ext bs0 H0 w0 bs s2.H w)(hm:H0.length=m):
 RS W0 F bs s1 a w∧Ext bs0 H0 w0 bs s1.H w:=by
 obtain⟨hle,hn,T,cs,ho,hT,hno,hH,henv⟩:=hc;refine⟨⟨by rw[hH];exact hs.heap.close ho hT hno,by rw[hs.size,hn],λt v hv=>?_⟩,⟨he.size,he.block,he.new,λj o hj=>?_⟩⟩;·obtain⟨v2,h1,rfl,h2⟩:=henv t v hv;have hr:=hs.env t v2 h1;grind[Rep.noId,Rep,Ce]
 ·obtain⟨o',h1,h2⟩:=he.obj j o hj;grind
end
section
variable {P : Program} {W0 : World} {m i : Nat} {K : Ai → St → Prop}
theorem ExM.cl {a:ACode}{s1 s2:St}(hf:Cl m i s1 s2)(h:ExM P W0 m a s1 K):ExM P W0 m a s2 K:=λc hc F bs x w hs bs0 H0 w0 hm he Q hq=>by obtain⟨h1,h2⟩:=hs.close hf he hm;exact h c hc F bs x w h1 bs0 H0 w0 hm h2 Q hq
end
def Yg (i n:Nat)(e:Env):List (Nat×AVal)→Prop
 | []=>True|p::r=>(∃v2,e.get p.1=some v2∧ClV i n v2 p.2)∧Yg i n e r
theorem A2q {i n:Nat}{e:Env}:∀{l:List (Nat×AVal)},Yg i n e l→∀p∈l,∃v2,e.get p.1=some v2∧ClV i n v2 p.2
 | [],_,_,h=>I5
 |q::r,ha,p,h=>by
  rcases List.mem_cons.1 h with rfl|h;·exact ha.1
  ·exact A2q ha.2 p h
theorem A1e {t:Nat}{v:AVal}:∀{l:List (Nat×AVal)},lk t l=some v→(t,v)∈l
 | [],h=>I5|(u,x)::l,h=>by simp only[lk]at h;cases hb:Nat.beq t u with|true=>rw[hb]at h;simp only[cond_true,iS]at h;have:=nBq hb;subst this;subst h;simp|false=>rw[hb]at h;exact List.mem_cons_of_mem _<|A1e h
theorem clMk {m i:Nat}{l:List (Nat×AVal)}{H:Hz}{n:Nat}{s:St}{T:TypeId}{cs:List AVal}(hle:m≤i)(hn:n=s.n)(ho:s.H[i]?=some (.cells T cs true))(hT:Nat.blt T 1000000=true)(hno:A1u i s.H=true)(hH:s.H.set i (.cells T cs false)=H)(h:Yg i cs.length s.env l):Cl m i ⟨.al l,H,n⟩ s:=⟨hle,hn,T,cs,ho,hT,hno,hH.symm,λt v hv=>A2q h (t,v)<|A1e hv⟩
theorem clH {i n t:Nat}{e:Env}{k len:Nat}{cap:Option Nat}{r:List (Nat×AVal)}(h:e.get t=some (.hsl k i 0 len cap))(hf:len*k=n)(q:Yg i n e r):Yg i n e ((t,.hsl k i 0 len cap)::r):=⟨⟨_,h,Z,.inr ⟨k,len,cap,Z,hf⟩⟩,q⟩
theorem clN {i n:Nat}{e:Env}:Yg i n e []:=O
section
variable {F : Nat → Prop} {bs : List Nat} {H : Hz} {w : World} {i : Nat}
end
section
variable {P : Program} {W0 : World} {G : List (Nat × AVal)} {m n : Nat} {e : Env} {H : Hz}
end
section
variable {P : Program} {W0 : World} {m : Nat}
def Mc (P:Program)(W0:World)(m:Nat)(c:ACode)(K:Ai→St→Prop):Nat→St→Prop
 |0,_=>False|n+1,s=>ExM P W0 m c s λe s'=>e.then s' (Mc P W0 m c K n) K
theorem Mc.step {c:ACode}{K:Ai→St→Prop}{n:Nat}{s:St}(h:ExM P W0 m c s λe s'=>e.then s' (Mc P W0 m c K n) K):Mc P W0 m c K (n+1) s:=h
theorem ExM.unroll {c:ACode}{K:Ai→St→Prop}(n:Nat){s:St}(h:Mc P W0 m c K n s):ExM P W0 m (.loop c) s K:=λk hk=>by obtain⟨k',rfl,hk'⟩:=G8 hk;intro F bs a w hs bs0 H0 w0 hm he Q hq;refine Ew (σ:=Nat) (λi a' w'=>∃s' bs',Mc P W0 m c K i s'∧RS W0 F bs' s' a' w'∧Ext bs0 H0 w0 bs' s'.H w'∧a'.defers=a.defers) id (s:=n) ⟨s,bs,h,hs,he,rfl⟩ ?_;rintro i a1 w1 ⟨s1,bs1,hi,hrs1,hext1,hd1⟩;cases i with|zero=>exact hi.elim|succ i=>refine hi k' hk' F bs1 a1 w1 hrs1 bs0 H0 w0 hm hext1 _ λe s' bs' a' w' hkk hrs hext hd=>?_;cases e with|normal=>exact⟨i,⟨s',bs',hkk,hrs,hext,hd.trans hd1⟩,Nat.lt_succ_self i⟩|exit id=>exact hq (.exit id) s' bs' a' w' hkk hrs hext (hd.trans hd1)|ret=>exact hq .ret s' bs' a' w' hkk hrs hext<|hd.trans hd1
theorem ExM.envOf {a:ACode}{l l':List (Nat×AVal)}{H:Hz}{n:Nat}{K:Ai→St→Prop}(hl:∀t v,lk t l'=some v→lk t l=some v)(h:ExM P W0 m a ⟨.al l',H,n⟩ K):ExM P W0 m a ⟨.al l,H,n⟩ K:=λc hc F bs x w hs bs0 H0 w0 hm he Q hq=>h c hc F bs x w ⟨hs.heap,hs.size,λt u hu=>hs.env t u<|hl t u hu⟩ bs0 H0 w0 hm he Q hq
end
end Go.Abs
namespace Go.Abs
open Go.RowKit
structure Y5 (s1 s2:St):Prop where
 n:s1.n=s2.n
 H:s1.H=s2.H
 env:∀t v,s1.env.get t=some v→s2.env.get t=some v
theorem RS.sub {W0:World}{F:Nat→Prop}{bs:List Nat}{s1 s2:St}{a:Act}{w:World}(hs:RS W0 F bs s2 a w)(h:Y5 s1 s2):RS W0 F bs s1 a w:=⟨by rw[h.H];exact hs.heap,by rw[hs.size,h.n],λt u hu=>by rw[h.H];exact hs.env t u<|h.env t u hu⟩
section
variable {P : Program} {W0 : World} {m : Nat}
theorem ExM.loopS {c:ACode}{σ:Type}(st:σ→St)(I:σ→Prop)(μ:σ→Nat)(i:σ){s:St}{K:Ai→St→Prop}(h0:Y5 (st i) s)(hI:I i)
 (round:∀i,I i→ExM P W0 m c (st i) λe s'=>e.then s' (λs'=>∃j,I j∧μ j<μ i∧Y5 (st j) s') K):ExM P W0 m (.loop c) s K:=λk hk=>by
 obtain⟨k',rfl,hk'⟩:=G8 hk;intro F bs a w hs bs0 H0 w0 hm he Q hq;refine Ew (σ:=σ) (λi a' w'=>∃bs',I i∧RS W0 F bs' (st i) a' w'∧Ext bs0 H0 w0 bs' (st i).H w'∧a'.defers=a.defers) μ (s:=i) ?_ ?_;·exact⟨bs,hI,hs.sub h0,by rw[h0.H];exact he,rfl⟩
 ·rintro i a1 w1 ⟨bs1,hi,hrs1,hext1,hd1⟩;refine round i hi k' hk' F bs1 a1 w1 hrs1 bs0 H0 w0 hm hext1 _ λe s' bs' a' w' hkk hrs hext hd=>?_;cases e with
  |normal=>obtain⟨j,hj,hlt,hw⟩:=hkk;exact⟨j,⟨bs',hj,hrs.sub hw,by rw[hw.H];exact hext,hd.trans hd1⟩,hlt⟩
  |exit id=>exact hq (.exit id) s' bs' a' w' hkk hrs hext (hd.trans hd1)|ret=>exact hq .ret s' bs' a' w' hkk hrs hext<|hd.trans hd1
theorem ExM.sub {a:ACode}{s1 s2:St}{K:Ai→St→Prop}(hf:Y5 s1 s2)(h:ExM P W0 m a s1 K):ExM P W0 m a s2 K:=λc hc F bs x w hs bs0 H0 w0 hm he Q hq=>h c hc F bs x w (hs.sub hf) bs0 H0 w0 hm (by rw[hf.H];exact he) Q hq
end
def Oe (e:Env):List (Nat×AVal)→Prop
 | []=>True|p::r=>e.get p.1=some p.2∧Oe e r
theorem Z4 {e:Env}:∀{l:List (Nat×AVal)},Oe e l→∀p∈l,e.get p.1=some p.2
 | [],_,_,h=>by cases h
 |q::r,ha,p,h=>by
  rcases List.mem_cons.1 h with rfl|h;·exact ha.1
  ·exact Z4 ha.2 p h
theorem An {l:List (Nat×AVal)}{H:Hz}{n:Nat}{s:St}(hn:n=s.n)(hH:H=s.H)(h:Oe s.env l):Y5 ⟨.al l,H,n⟩ s:=⟨hn,hH,λt v hv=>Z4 h (t,v)<|A1e hv⟩
theorem sbC {t:Nat}{e:Env}{v:AVal}{r:List (Nat×AVal)}(h:e.get t=some v)(k:Oe e r):Oe e ((t,v)::r):=⟨h,k⟩
theorem sbN {e:Env}:Oe e []:=trivial
theorem sb4 {a b c d:Nat}{e:Env}{v x y z:AVal}{r:List (Nat×AVal)}(h:e.get a=some v)(h2:e.get b=some x)(h3:e.get c=some y)(h4:e.get d=some z)(k:Oe e r):Oe e ((a,v)::(b,x)::(c,y)::(d,z)::r):=⟨h,h2,h3,h4,k⟩
end Go.Abs
namespace Go.Abs
open Go.RowKit
def I8 (P:Program)(W0:World)(f:FuncId)(args:List AVal)(H:Hz)(Q:AVal→Hz→Prop):Prop:=
 Ed P f∧∀(F:Nat→Prop) (bs:List Nat) (w:World) (cargs:List Value),Ad W0 F bs H w→Aa F bs H w args cargs→
  Calls P f cargs.toArray w λe w'=>∃v H' cv bs',Q v H'∧e= .returned cv∧Rep F bs' H' w' v cv∧Ad W0 F bs' H' w'∧Ext bs H w bs' H' w'
section
variable {P : Program} {W0 : World} {G : List (Nat × AVal)}
theorem I8.of {f:FuncId}{args:List AVal}{v:AVal}{H H':Hz}(h:A5 P W0 f args H v H'):I8 P W0 f args H (λx X=>x=v∧X=H'):=by refine⟨h.1,λF bs w cargs hh hr=>Calls.mono (h.2 F bs w cargs hh hr) λe w' he=>?_⟩;grind
theorem I8.mono {f:FuncId}{args:List AVal}{H:Hz}{Q Q':AVal→Hz→Prop}(h:I8 P W0 f args H Q)(hq:∀v X,Q v X→Q' v X):I8 P W0 f args H Q':=⟨h.1,λF bs w cargs hh hr=>Calls.mono (h.2 F bs w cargs hh hr) λ_ _ ⟨v,X,cv,bs',k1,k2⟩=>⟨v,X,cv,bs',hq v X k1,k2⟩⟩
theorem I8.ofE {f:FuncId}{args:List AVal}{Q:AVal→Prop}(h:As P W0 f args Q)(ha:Ab 0 args=true)(hq:∀v,Q v→blw 0 v=true)(H:Hz):I8 P W0 f args H (λv X=>Q v∧X=H):=⟨h.1,λ_ bs _ _ hh hr=>Calls.mono (h.at ha hq hh hr) λ_ _ ⟨v,cv,k1,k2,k3,k4,k5⟩=>⟨v,H,cv,bs,⟨k1,rfl⟩,k2,k3,k4,k5⟩⟩
theorem As.ofQ {f:FuncId}{args:List AVal}{Q:AVal→Prop}(h:I8 P W0 f args []<|λv X=>Q v∧X=[]):As P W0 f args Q:=by refine⟨h.1,λF w cargs hh hr=>Calls.mono (h.2 F [] w cargs hh hr) λe w' he=>?_⟩;obtain⟨v,X,cv,bs',⟨k1,rfl⟩,rfl,h1,h2,h3⟩:=he;have hb:bs'=[]:=List.length_eq_zero_iff.1 (by simpa using h2.len);grind
theorem I8.of_fnM {f:Nat}{x:AFn}(hf:Gw P f=some x){args:List AVal}{H:Hz}{Q:AVal→Hz→Prop}(hl:args.length≤4094){n:Nat}(hn:args.length+(x.n-args.length)=n)
 (h:ExM P W0 H.length x.code ⟨.al<|Ej 0 args,H,n⟩ λe s=>∃v H',Q v H'∧Iy x.res H.length v H' e s):I8 P W0 f args H Q:=by
 obtain⟨fn,c,h1,h2,h3,h4,h5,h6⟩:=Jp hf;refine⟨⟨fn,c,h1,h2,h5⟩,λF bs w cargs hh hr=>?_⟩;have hrs:=G7 hh hr hl fn.ntmps;have hrs':RS W0 F bs ⟨.al<|Ej 0 args,H,n⟩ {tmps:=cargs.toArray++Array.replicate (fn.ntmps-cargs.toArray.size) undef,defers:=[]} w:=
  ⟨hrs.heap,A35,λt u hu=>hrs.env t u (by
   rw[Ds args 0 .leaf t Y];have hu:lk t (Ej 0 args)=some u:=hu;rw[Je]at hu
   grind)⟩
 refine calls_of_wp h1 h2<|h c h3 F bs _ w hrs' bs H w Z (Ext.refl _ _ _) _ λe s' bs' a' w' hk hrs hext hd=>?_;obtain⟨v,H',hQ,hne,vs,hvs,hlv⟩:=hk;obtain⟨cv,r1,r2⟩:=G5 hrs<|L9 h4 hvs;obtain⟨bs'',r3,r4,r5⟩:=P1 hrs.heap hext r2 hlv;have fin:bodyPost P fn (λe w'=>∃v H' cv bs',Q v H'∧e= .returned cv∧Rep F bs' H' w' v cv∧Ad W0 F bs' H' w'∧Ext bs H w bs' H' w') .ret a' w':=⟨hd,cv,r1,v,H',cv,bs'',hQ,rfl,r3,r4,r5⟩;cases e with|normal=>exact fin|ret=>exact fin|exit id=>exact hne.elim
variable {m : Nat} {l : List (Nat × AVal)} {H H' : Hz} {n : Nat} {K : St → Prop} {r : List AOper}
theorem A55 {ops:Array Oper}{i:Nat}{d:Option Nat}{g:Option (Nat×Bool)}{op:AOp}{r:List AOper}(hco:Bc P ops (ops.toList.drop i)=some (⟨d,g,op⟩::r))(hgd:Gok g l):
 ∃x,ops[i]?=some x∧x.dst=d∧Ar P x.op=some op∧Cj ops ⟨.al l,H,n⟩ x.guard=some true∧Bc P ops (ops.toList.drop<|i+1)=some r:=by
 obtain⟨x,xs,hdr,hx,hxs⟩:=Eh hco;have hi:ops[i]?=some x:=by have h0:=congrArg (λl=>l[0]?) hdr;grind
 have hr:ops.toList.drop (i+1)=xs:=by have:=congrArg (List.drop 1) hdr;grind[List.drop_drop]
 have hdst:x.dst=d:=(D9 hx).symm;have hop:∃o',Ar P x.op=some o'∧o'=op:=by grind[Be]
 obtain⟨o',ho',rfl⟩:=hop;refine⟨x,hi,hdst,ho',?_,by grind⟩;unfold Be at hx;cases hgx:D7 ops x.guard with
 |none=>rw[hgx]at hx;cases hx
 |some gx=>
  rw[hgx]at hx;simp only[ho']at hx;injection hx with hx;injection hx with _ hx _;subst hx;cases hxg:x.guard with
  |none=>rfl
  |some gw=>
   obtain⟨j,want⟩:=gw;rw[hxg]at hgx;simp only[D7]at hgx;cases hd':(ops[j]?).bind (·.dst)with
   |none=>rw[hd']at hgx;cases hgx
   |some d'=>rw[hd']at hgx;simp only[iS]at hgx;subst hgx;have hl:(Env.al l).get d'=some (.bool want):=hgd;simp only[Cj,hd',hl];cases want<;>rfl
theorem Ku (hg:Gr P W0 G){g:Option (Nat×Bool)}(hgd:Gok g l){d:Nat}{op:AOp}{f:Nat}{args:List AVal}{Q:AVal→Hz→Prop}(h:aop G ⟨.al l,H,n⟩ op=some (.call f args))(hd:(Nat.blt d n&&Nat.blt d 4094)=true)(hc:I8 P W0 f args H Q)
 (k:∀v X,Q v X→Af P W0 G m r ⟨.al ((d,v)::l),X,n⟩ K):Af P W0 G m (⟨some d,g,op⟩::r) ⟨.al l,H,n⟩ K:=λops i hco F bs a w hs bs0 H0 w0 hm he Q0 hq0=>by
 obtain⟨x,hi,hdst,ho',hg',hxs⟩:=A55 (H:=H) (n:=n) hco hgd;simp only[lCo,List.range'_succ,wpOps,hi];rw[Oo hs hg'];simp only[if_true];refine .inl ?_;have hok:=Xc (P:=P) hg.g hs ho' h;obtain⟨cargs,h1,h2⟩:=hok hc.1;unfold Oper.wp;rw[h1,Oper.upon_enter];refine Calls.mono (hc.2 F bs w cargs hs.heap h2) λe w' he'=>?_;obtain⟨v,X,cv,bs',k1,rfl,k3,k4,k5⟩:=he';obtain⟨s',hK,hrs,hH⟩:=hs.put (dst:=x.dst) (K:=λs'=>s'=⟨.al ((d,v)::l),X,n⟩) k3 k4 k5 (by rw[hdst];exact⟨hd,rfl⟩);subst hK;have hput:∀(dst:Option Tmp) (v:Value),(a.put dst v).defers=a.defers:=λdst v=>Yv;exact k v X k1 ops (i+1) hxs F bs' _ w' hrs bs0 H0 w0 hm (he.trans k5) Q0 λs2 bs2 a2 w2 e1 e2 e3 e4=>hq0 s2 bs2 a2 w2 e1 e2 e3<|e4.trans<|hput _ _
theorem ExM.loopJ {c:ACode}{σ τ:Type}(st:σ→St)(I:σ→Prop)(μ:σ→Nat)(i:σ)(id:Nat)(po:τ→St)(J:τ→Prop){s:St}{K:Ai→St→Prop}(h0:Y5 (st i) s)(hI:I i)
 (round:∀i,I i→ExM P W0 m c (st i) λe s'=>e.then s' (λs'=>∃j,I j∧μ j<μ i∧Y5 (st j) s')<|λe s'=>(e= .exit id∧∃j,J j∧Y5 (po j) s')∨K e s')
 (rest:∀j s',J j→Y5 (po j) s'→K (.exit id) s'):ExM P W0 m (.loop c) s K:=by
 refine ExM.loopS st I μ i h0 hI λi hi=>(round i hi).mono λe s' h=>?_;grind
theorem ExM.seqJ {x y:ACode}{τ:Type}(po:τ→St)(J:τ→Prop){s:St}{K:Ai→St→Prop}
 (h:ExM P W0 m x s λe s'=>e.then s' (λs'=>∃j,J j∧Y5 (po j) s') K) (rest:∀j,J j→ExM P W0 m y (po j) K):ExM P W0 m (.seq x y) s K:=by
 refine ExM.seq<|h.mono λe s' h=>?_;grind[sub]
end
section
variable {P : Program} {W0 : World} {G : List (Nat × AVal)} {l : List (Nat × AVal)} {H H' : Hz} {n : Nat} {K : St → Prop} {r : List AOper}
theorem lV {d:Nat}{op:AOp}{v:AVal}(h:aop G ⟨.al l,H,n⟩ op=some (.val v H' []))(k:Av P W0 G r ⟨.al ((d,v)::l),H',n⟩ K)(hd:(Nat.blt d n&&Nat.blt d 4094)=true:=by rfl):Av P W0 G (⟨some d,none,op⟩::r) ⟨.al l,H,n⟩ K:=A9 h hd trivial k
theorem lS {d:Nat}{op:AOp}{v:AVal}{side:List (Int×Int)}(h:aop G ⟨.al l,H,n⟩ op=some (.val v H' side))(k:Av P W0 G r ⟨.al ((d,v)::l),H',n⟩ K)(hd:(Nat.blt d n&&Nat.blt d 4094)=true:=by rfl)(hs:Ag side:=by first|exact trivial|decide|(simp only[B3,Ci,Ag,and_true,lCo,lNi,lAp];omega)):Av P W0 G (⟨some d,none,op⟩::r) ⟨.al l,H,n⟩ K:=A9 h hd hs k
theorem lC {d:Nat}{op:AOp}{f:Nat}{args:List AVal}{v:AVal}(h:aop G ⟨.al l,H,n⟩ op=some (.call f args))(hc:A5 P W0 f args H v H')(k:Av P W0 G r ⟨.al ((d,v)::l),H',n⟩ K)(hd:(Nat.blt d n&&Nat.blt d 4094)=true:=by rfl):Av P W0 G (⟨some d,none,op⟩::r) ⟨.al l,H,n⟩ K:=Gx h hd hc k
theorem ln (h:K ⟨.al l,H,n⟩):Av P W0 G [] ⟨.al l,H,n⟩ K:=h
theorem qV {d:Nat}{op:AOp}{v:AVal}(h:aop G ⟨.al l,H,n⟩ op=some (.val v H []))(k:Bo P W0 G r ⟨.al ((d,v)::l),H,n⟩ K)(hd:(Nat.blt d n&&Nat.blt d 4094)=true:=by rfl):Bo P W0 G (⟨some d,none,op⟩::r) ⟨.al l,H,n⟩ K:=Ak h hd trivial k
end
section
variable {P : Program} {W0 : World} {G : List (Nat × AVal)} {s : St} {K : Ai → St → Prop}
theorem sa {x y:ACode}(h:ExA P W0 x s λe s'=>e.then s' (λs'=>ExA P W0 y s' K) K):ExA P W0 (.seq x y) s K:=ExA.seq h
theorem oA {x:List AOper}(h:Av P W0 G x s<|K .normal)(hg:Gr P W0 G:=by assumption):ExA P W0 (.ops x) s K:=ExA.ops hg h
theorem sA {x:List AOper}{y:ACode}(h:Av P W0 G x s λs'=>Ai.then .normal s' (λs'=>ExA P W0 y s' K) K)(hg:Gr P W0 G:=by assumption):ExA P W0 (.seq (.ops x) y) s K:=ExA.seq<|ExA.ops hg h
theorem bA {id:Nat}{x:ACode}(h:ExA P W0 x s<|Ai.inBlock id K):ExA P W0 (.block id x) s K:=ExA.block h
theorem kA (h:K .normal s):ExA P W0 .skip s K:=ExA.skip h
theorem aT {c:AOpd}{x y:ACode}(hv:ev G s c=some (.bool true))(h:ExA P W0 x s K)(hg:Gr P W0 G:=by assumption):ExA P W0 (.cond c x y) s K:=ExA.condT hg hv h
theorem aF {c:AOpd}{x y:ACode}(hv:ev G s c=some (.bool false))(h:ExA P W0 y s K)(hg:Gr P W0 G:=by assumption):ExA P W0 (.cond c x y) s K:=ExA.condF hg hv h
end
def tame :AOp→Bool
 |.move ..|.pick ..|.load ..|.nilCheck ..|.conv ..|.fieldAddr ..|.extract ..|.mkfn ..|.len ..|.iface ..|.field ..|.build ..|.mm ..|.tas ..|.cut0 ..|.un .not _=>true|_=>false
section
variable {P : Program} {W0 : World} {G : List (Nat × AVal)} {m : Nat} {l : List (Nat × AVal)} {H H' : Hz} {n : Nat} {K : St → Prop} {r : List AOper} {g : Option (Nat × Bool)} {d : Nat} {op : AOp} {side : List (Int × Int)}
theorem wV {v:AVal}(_:tame op=true)(h:aop G ⟨.al l,H,n⟩ op=some (.val v H []))(k:Af P W0 G m r ⟨.al ((d,v)::l),H,n⟩ K)(hg:Gr P W0 G:=by assumption)(hgd:Gok g l:=by first|exact gN|with_unfolding_all exact gS rfl)(hd:(Nat.blt d n&&Nat.blt d 4094)=true:=by with_unfolding_all rfl):Af P W0 G m (⟨some d,g,op⟩::r) ⟨.al l,H,n⟩ K:=Ac hg hgd h hd O k
theorem wA {T:TypeId}{zs:List AVal}(k:Af P W0 G m r ⟨.al ((d,.ptr H.length 0)::l),H++[.cells T zs false],n⟩ K)(hg:Gr P W0 G:=by assumption)(hgd:Gok g l:=by first|exact gN|with_unfolding_all exact gS rfl)(hd:(Nat.blt d n&&Nat.blt d 4094)=true:=by with_unfolding_all rfl):Af P W0 G m (⟨some d,g,.alloc T zs⟩::r) ⟨.al l,H,n⟩ K:=Ac (side:=[]) hg hgd F6 hd O k
theorem wB {T:TypeId}{x:AOpd}{v:AVal}(h:ev G ⟨.al l,H,n⟩ x=some v)(k:Af P W0 G m r ⟨.al ((d,.ptr H.length 0)::l),H++[.cells T v.cells false],n⟩ K)(hg:Gr P W0 G:=by assumption)(hgd:Gok g l:=by first|exact gN|with_unfolding_all exact gS rfl)(hd:(Nat.blt d n&&Nat.blt d 4094)=true:=by with_unfolding_all rfl):Af P W0 G m (⟨some d,g,.box T x⟩::r) ⟨.al l,H,n⟩ K:=Ac (side:=[]) hg hgd (by simp only[aop,h]) hd O k
theorem wT {v:Bz}(h:aop G ⟨.al l,H,n⟩ op=some (.val (.str v) H side))(k:Af P W0 G m r ⟨.al ((d,.str v)::l),H,n⟩ K)(hg:Gr P W0 G:=by assumption)(hgd:Gok g l:=by first|exact gN|with_unfolding_all exact gS rfl)(hd:(Nat.blt d n&&Nat.blt d 4094)=true:=by with_unfolding_all rfl)(hs:Ag side:=by first|exact trivial|decide|(simp only[B3,Ag,and_true,lCo,lNi,lAp];omega)):Af P W0 G m (⟨some d,g,op⟩::r) ⟨.al l,H,n⟩ K:=Ac hg hgd h hd hs k
theorem wK (h:aop G ⟨.al l,H,n⟩ op=some (.skip H'))(k:Af P W0 G m r ⟨.al l,H',n⟩ K)(hg:Gr P W0 G:=by assumption)(hgd:Gok g l:=by first|exact gN|exact gS rfl):Af P W0 G m (⟨none,g,op⟩::r) ⟨.al l,H,n⟩ K:=Ah hg hgd h k
theorem wt {b:Bool}(h:aop G ⟨.al l,H,n⟩ op=some (.val (.bool b) H []))(k:Af P W0 G m r ⟨.al ((d,.bool true)::l),H,n⟩ K)(hb:b=true:=by rfl)(hg:Gr P W0 G:=by assumption)(hgd:Gok g l:=by first|exact gN|with_unfolding_all exact gS rfl)(hd:(Nat.blt d n&&Nat.blt d 4094)=true:=by with_unfolding_all rfl):Af P W0 G m (⟨some d,g,op⟩::r) ⟨.al l,H,n⟩ K:=mBk hg hgd h hd hb k
theorem wf {b:Bool}(h:aop G ⟨.al l,H,n⟩ op=some (.val (.bool b) H []))(k:Af P W0 G m r ⟨.al ((d,.bool false)::l),H,n⟩ K)(hb:b=false:=by rfl)(hg:Gr P W0 G:=by assumption)(hgd:Gok g l:=by first|exact gN|with_unfolding_all exact gS rfl)(hd:(Nat.blt d n&&Nat.blt d 4094)=true:=by with_unfolding_all rfl):Af P W0 G m (⟨some d,g,op⟩::r) ⟨.al l,H,n⟩ K:=mBk hg hgd h hd hb k
end
theorem A5.fnW {P:Program}{W0:World}{f:Nat}{code:ACode}{res:List RV}{n0:Nat}(n m:Nat)(hf:Gw P f=some ⟨code,res,n0⟩){args:List AVal}{H:Hz}{v:AVal}{H':Hz}(h:ExM P W0 m code ⟨.al<|Ej 0 args,H,n⟩<|Iy res m v H')(hl:args.length≤4094:=by simp)(hn:args.length+(n0-args.length)=n:=by rfl)(hm:H.length=m:=by rfl):A5 P W0 f args H v H':=by subst hm;exact A5.of_fnM hf hl hn h
section
variable {P : Program} {W0 : World} {G : List (Nat × AVal)} {m : Nat} {s : St} {K : Ai → St → Prop}
def sK (P:Program)(W0:World)(m:Nat)(y:ACode)(K:Ai→St→Prop)(e:Ai)(s:St):Prop:=e.then s (λs'=>ExM P W0 m y s' K) K
theorem kS {x y:ACode}(h:ExM P W0 m x s<|sK P W0 m y K):ExM P W0 m (.seq x y) s K:=ExM.seq h
theorem kO {x:List AOper}(h:Af P W0 G m x s<|K .normal)(hg:Gr P W0 G:=by assumption):ExM P W0 m (.ops x) s K:=ExM.ops hg h
theorem kN {y:ACode}(h:ExM P W0 m y s K):sK P W0 m y K .normal s:=h
theorem kE {y:ACode}{i:Nat}(h:K (.exit i) s):sK P W0 m y K (.exit i) s:=h
theorem kR {y:ACode}(h:K .ret s):sK P W0 m y K .ret s:=h
def iK (id:Nat)(K:Ai→St→Prop)(e:Ai)(s:St):Prop:=Ai.inBlock id K e s
theorem kB {id:Nat}{x:ACode}(h:ExM P W0 m x s<|iK id K):ExM P W0 m (.block id x) s K:=ExM.block h
theorem kI {id:Nat}(h:K .normal s):iK id K .normal s:=h
theorem kJ {id j:Nat}(h:K .normal s)(hj:Nat.beq j id=true:=by rfl):iK id K (.exit j) s:=by show(bif Nat.beq j id then K .normal s else K (.exit j) s);grind
theorem kX {id j:Nat}(h:K (.exit j) s)(hj:Nat.beq j id=false:=by rfl):iK id K (.exit j) s:=by show(bif Nat.beq j id then K .normal s else K (.exit j) s);grind
theorem kQ {id:Nat}(h:K .ret s):iK id K .ret s:=h
end
section
variable {P : Program} {W0 : World} {G : List (Nat × AVal)} {m : Nat} {l : List (Nat × AVal)} {H H' : Hz} {n : Nat} {K : St → Prop} {r : List AOper} {g : Option (Nat × Bool)} {d : Nat} {op : AOp} {side : List (Int × Int)} {x y : AOpd} {o : BinOp} {dd : Option TypeDesc} {kk : Nat} {ag : Bool}
theorem vMv {v:AVal}(h:aop G ⟨.al l,H,n⟩ (.move x)=some (.val v H []))(k:Af P W0 G m r ⟨.al ((d,v)::l),H,n⟩ K)(hg:Gr P W0 G:=by assumption)(hgd:Gok g l:=by first|exact gN|with_unfolding_all exact gS rfl)(hd:(Nat.blt d n&&Nat.blt d 4094)=true:=by with_unfolding_all rfl):Af P W0 G m (⟨some d,g,.move x⟩::r) ⟨.al l,H,n⟩ K:=Ac hg hgd h hd O k
theorem vFA {v:AVal}(h:aop G ⟨.al l,H,n⟩ (.fieldAddr kk x)=some (.val v H []))(k:Af P W0 G m r ⟨.al ((d,v)::l),H,n⟩ K)(hg:Gr P W0 G:=by assumption)(hgd:Gok g l:=by first|exact gN|with_unfolding_all exact gS rfl)(hd:(Nat.blt d n&&Nat.blt d 4094)=true:=by with_unfolding_all rfl):Af P W0 G m (⟨some d,g,.fieldAddr kk x⟩::r) ⟨.al l,H,n⟩ K:=Ac hg hgd h hd O k
theorem vLd {v:AVal}(h:aop G ⟨.al l,H,n⟩ (.load kk ag x)=some (.val v H []))(k:Af P W0 G m r ⟨.al ((d,v)::l),H,n⟩ K)(hg:Gr P W0 G:=by assumption)(hgd:Gok g l:=by first|exact gN|with_unfolding_all exact gS rfl)(hd:(Nat.blt d n&&Nat.blt d 4094)=true:=by with_unfolding_all rfl):Af P W0 G m (⟨some d,g,.load kk ag x⟩::r) ⟨.al l,H,n⟩ K:=Ac hg hgd h hd O k
theorem vBt {b:Bool}(h:aop G ⟨.al l,H,n⟩ (.bin o dd x y)=some (.val (.bool b) H []))(hb:b=true)(k:Af P W0 G m r ⟨.al ((d,.bool true)::l),H,n⟩ K)(hg:Gr P W0 G:=by assumption)(hgd:Gok g l:=by first|exact gN|with_unfolding_all exact gS rfl)(hd:(Nat.blt d n&&Nat.blt d 4094)=true:=by with_unfolding_all rfl):Af P W0 G m (⟨some d,g,.bin o dd x y⟩::r) ⟨.al l,H,n⟩ K:=mBk hg hgd h hd hb k
theorem vBf {b:Bool}(h:aop G ⟨.al l,H,n⟩ (.bin o dd x y)=some (.val (.bool b) H []))(hb:b=false)(k:Af P W0 G m r ⟨.al ((d,.bool false)::l),H,n⟩ K)(hg:Gr P W0 G:=by assumption)(hgd:Gok g l:=by first|exact gN|with_unfolding_all exact gS rfl)(hd:(Nat.blt d n&&Nat.blt d 4094)=true:=by with_unfolding_all rfl):Af P W0 G m (⟨some d,g,.bin o dd x y⟩::r) ⟨.al l,H,n⟩ K:=mBk hg hgd h hd hb k
theorem vAd {z:Int}(h:aop G ⟨.al l,H,n⟩ (.bin .add dd x y)=some (.val (.int .i64<|IntKind.i64.wrap z) H side))(k:Af P W0 G m r ⟨.al ((d,.int .i64 z)::l),H,n⟩ K)(hg:Gr P W0 G:=by assumption)(hgd:Gok g l:=by first|exact gN|with_unfolding_all exact gS rfl)(hd:(Nat.blt d n&&Nat.blt d 4094)=true:=by with_unfolding_all rfl)(hs:Ag side:=by first|with_unfolding_all exact trivial|with_unfolding_all decide|(with_unfolding_all simp only[B3,Ag,and_true,C6,List.length_map,lCo,lNi,lAp];omega))(h1:-9223372036854775808≤z:=by omega)(h2:z≤9223372036854775807:=by omega):Af P W0 G m (⟨some d,g,.bin .add dd x y⟩::r) ⟨.al l,H,n⟩ K:=mKv hg hgd h hd hs (Bj h1 h2 Z) k
theorem vSu {z:Int}(h:aop G ⟨.al l,H,n⟩ (.bin .sub dd x y)=some (.val (.int .i64<|IntKind.i64.wrap z) H side))(k:Af P W0 G m r ⟨.al ((d,.int .i64 z)::l),H,n⟩ K)(hg:Gr P W0 G:=by assumption)(hgd:Gok g l:=by first|exact gN|with_unfolding_all exact gS rfl)(hd:(Nat.blt d n&&Nat.blt d 4094)=true:=by with_unfolding_all rfl)(hs:Ag side:=by first|with_unfolding_all exact trivial|with_unfolding_all decide|(with_unfolding_all simp only[B3,Ag,and_true,C6,List.length_map,lCo,lNi,lAp];omega))(h1:-9223372036854775808≤z:=by omega)(h2:z≤9223372036854775807:=by omega):Af P W0 G m (⟨some d,g,.bin .sub dd x y⟩::r) ⟨.al l,H,n⟩ K:=mKv hg hgd h hd hs (Bj h1 h2 Z) k
theorem vAs {v:Bz}(h:aop G ⟨.al l,H,n⟩ (.bin .add dd x y)=some (.val (.str v) H side))(k:Af P W0 G m r ⟨.al ((d,.str v)::l),H,n⟩ K)(hg:Gr P W0 G:=by assumption)(hgd:Gok g l:=by first|exact gN|with_unfolding_all exact gS rfl)(hd:(Nat.blt d n&&Nat.blt d 4094)=true:=by with_unfolding_all rfl)(hs:Ag side:=by first|with_unfolding_all exact trivial|with_unfolding_all decide|(with_unfolding_all simp only[B3,Ag,and_true,C6,List.length_map,lCo,lNi,lAp];omega)):Af P W0 G m (⟨some d,g,.bin .add dd x y⟩::r) ⟨.al l,H,n⟩ K:=Ac hg hgd h hd hs k
theorem vCl {fx:AOpd}{as_:List AOpd}{f:Nat}{args:List AVal}{v:AVal}(h:aop G ⟨.al l,H,n⟩ (.call fx as_)=some (.call f args))(hc:A5 P W0 f args H v H')(k:Af P W0 G m r ⟨.al ((d,v)::l),H',n⟩ K)(hg:Gr P W0 G:=by assumption)(hgd:Gok g l:=by first|exact gN|with_unfolding_all exact gS rfl)(hd:(Nat.blt d n&&Nat.blt d 4094)=true:=by with_unfolding_all rfl):Af P W0 G m (⟨some d,g,.call fx as_⟩::r) ⟨.al l,H,n⟩ K:=G1 hg hgd h hd hc k
end
section
variable {P : Program} {W0 : World} {G : List (Nat × AVal)} {m : Nat}
def loK {σ τ:Type}(m:Nat)(st:σ→St)(I:σ→Prop)(μ:σ→Nat)(i:σ)(id:Nat)(po:τ→St)(J:τ→Prop)(K:Ai→St→Prop)(e:Ai)(s:St):Prop:=e.then s (λs'=>∃j,I j∧μ j<μ i∧Fz m (st j) s') λe s'=>(e= .exit id∧∃j,J j∧Fz m (po j) s')∨(e≠ .exit id∧K e s')
section
variable {σ τ : Type} {st : σ → St} {I : σ → Prop} {μ : σ → Nat} {i : σ} {id : Nat} {po : τ → St} {J : τ → Prop} {K : Ai → St → Prop} {s : St}
theorem loN (j:σ)(hI:I j)(hm:μ j<μ i)(hf:Fz m (st j) s):loK m st I μ i id po J K .normal s:=⟨j,hI,hm,hf⟩
theorem loE (j:τ)(hJ:J j)(hf:Fz m (po j) s):loK m st I μ i id po J K (.exit id) s:=.inl ⟨Z,j,hJ,hf⟩
theorem loR (h:K .ret s):loK m st I μ i id po J K .ret s:=.inr ⟨(λe=>by cases e),h⟩
end
theorem vGT {l:List (Nat×AVal)}{H:Hz}{n:Nat}{K:St→Prop}{r:List AOper}{d t:Nat}{w:Bool}{op:AOp}(h:lk t l=some (.tup []))(k:Af P W0 G m r ⟨.al ((d,.tup [])::l),H,n⟩ K)(hg:Gr P W0 G:=by assumption)(hd:(Nat.blt d n&&Nat.blt d 4094)=true:=by with_unfolding_all rfl):Af P W0 G m (⟨some d,some (t,w),op⟩::r) ⟨.al l,H,n⟩ K:=mGT hg h hd k
end
structure Wrp (B:Prop):Prop where
 x:B
theorem Wm {A B:Prop}(k:B)(h:Wrp B→A:=by
 intro wk
 repeat (first
  |with_reducible refine vMv C7 ?_|with_reducible refine vFA C7 ?_|with_reducible refine vLd C7 ?_|with_reducible refine mn ?_|with_reducible refine kS ?_|with_reducible refine kO ?_|with_reducible refine kN ?_|with_reducible refine kB ?_|with_reducible refine ExM.scope ?_|with_reducible refine ExM.mark ?_|with_reducible refine kM ?_|with_reducible refine kE ?_|with_reducible refine kR ?_|with_reducible refine loR ?_|with_reducible refine kI ?_|with_reducible refine kJ ?_|with_reducible refine kX ?_|with_reducible refine kQ ?_|with_reducible refine ExM.exit ?_|with_reducible refine ExM.ret ?_|with_reducible refine cT C7 ?_|with_reducible refine cF C7 ?_|with_reducible refine vBt C7 C7 ?_|with_reducible refine vBf C7 C7 ?_|with_reducible refine vBt C7 bY135 ?_|with_reducible refine vBf C7 bY106 ?_|with_reducible refine vCl C7 (by with_unfolding_all apply_assumption-exfalso) ?_|with_reducible refine vAd C7 ?_|with_reducible refine vSu C7 ?_|with_reducible refine vAs C7 ?_|with_reducible refine wA ?_|with_reducible refine wB C7 ?_|refine mG ?_|with_reducible refine vGT C7 ?_|refine wV rfl rfl ?_|refine wt rfl ?_|refine wf rfl ?_|refine wT rfl ?_|refine wK rfl ?_)
 exact wk.x):A:=h ⟨k⟩
theorem We {A:Prop}(h:A:=by
 repeat (first
  |with_reducible refine vMv C7 ?_|with_reducible refine vFA C7 ?_|with_reducible refine vLd C7 ?_|with_reducible refine mn ?_|with_reducible refine kS ?_|with_reducible refine kO ?_|with_reducible refine kN ?_|with_reducible refine kB ?_|with_reducible refine ExM.scope ?_|with_reducible refine ExM.mark ?_|with_reducible refine kM ?_|with_reducible refine kE ?_|with_reducible refine kR ?_|with_reducible refine loR ?_|with_reducible refine kI ?_|with_reducible refine kJ ?_|with_reducible refine kX ?_|with_reducible refine kQ ?_|with_reducible refine ExM.exit ?_|with_reducible refine ExM.ret ?_|with_reducible refine cT C7 ?_|with_reducible refine cF C7 ?_|with_reducible refine vBt C7 C7 ?_|with_reducible refine vBf C7 C7 ?_|with_reducible refine vBt C7 bY135 ?_|with_reducible refine vBf C7 bY106 ?_|with_reducible refine vCl C7 (by with_unfolding_all apply_assumption-exfalso) ?_|with_reducible refine vAd C7 ?_|with_reducible refine vSu C7 ?_|with_reducible refine vAs C7 ?_|with_reducible refine wA ?_|with_reducible refine wB C7 ?_|refine mG ?_|with_reducible refine vGT C7 ?_|refine wV rfl rfl ?_|refine wt rfl ?_|refine wf rfl ?_|refine wT rfl ?_|refine wK rfl ?_)
 first|exact A6 trivial rfl rfl rfl|exact A4 trivial rfl rfl 100 rfl rfl):A:=h
def pch (v:Value):List PanicEntry:=[{v,recovered:=false}]
def Og (P:Program)(W0:World)(f:FuncId)(args:List AVal)(H:Hz)(v:AVal)(H':Hz):Prop:=
 Ed P f∧∀(F:Nat→Prop) (bs:List Nat) (w:World) (cargs:List Value),Ad W0 F bs H w→Aa F bs H w args cargs→
  Calls P f cargs.toArray w λe w'=>∃cv bs',e= .panicked (pch cv)∧Rep F bs' H' w' v cv∧Ad W0 F bs' H' w'∧Ext bs H w bs' H' w'
def ExP (P:Program)(W0:World)(m:Nat)(a:ACode)(s:St)(v:AVal)(K:St→Prop):Prop:=
 ∀c,Bq P c=some a→∀(F:Nat→Prop) (bs:List Nat) (x:Act) (w:World),RS W0 F bs s x w→∀(bs0:List Nat) (H0:Hz) (w0:World),H0.length=m→Ext bs0 H0 w0 bs s.H w→∀Q:Exit→Act→World→Prop,
  (∀cv s' bs' a' w',K s'→RS W0 F bs' s' a' w'→Rep F bs' s'.H w' v cv→Ext bs0 H0 w0 bs' s'.H w'→a'.defers=x.defers→Q (.panic<|pch cv) a' w')→c.wp P Q x w
section
variable {P : Program} {W0 : World} {G : List (Nat × AVal)} {m : Nat} {v : AVal} {K : St → Prop}
theorem ExP.seqL {x y:ACode}{s:St}(h:ExP P W0 m x s v K):ExP P W0 m (.seq x y) s v K:=λc hc=>by obtain⟨a,b,rfl,ha,hb⟩:=Pi hc;intro F bs x w hs bs0 H0 w0 hm he Q hq;exact wp_seq<|h a ha F bs x w hs bs0 H0 w0 hm he _ λcv s' bs' a' w' h1 h2 h3 h4 h5=>hq cv s' bs' a' w' h1 h2 h3 h4 h5
theorem ExP.seqR {x y:ACode}{s:St}(h:ExM P W0 m x s λe s'=>e= .normal∧ExP P W0 m y s' v K):ExP P W0 m (.seq x y) s v K:=λc hc=>by obtain⟨a,b,rfl,ha,hb⟩:=Pi hc;intro F bs x w hs bs0 H0 w0 hm he Q hq;refine wp_seq<|h a ha F bs x w hs bs0 H0 w0 hm he _ λe s' bs' a' w' hk hrs hext hd=>?_;obtain⟨rfl,hk⟩:=hk;exact hk b hb F bs' a' w' hrs bs0 H0 w0 hm hext Q λcv s2 bs2 a2 w2 h1 h2 h3 h4 h5=>hq cv s2 bs2 a2 w2 h1 h2 h3 h4<|h5.trans hd
theorem ExP.condT (hg:Gr P W0 G){s:St}{c:AOpd}{x y:ACode}(hv:ev G s c=some (.bool true))(ht:ExP P W0 m x s v K):ExP P W0 m (.cond c x y) s v K:=λk hk=>by obtain⟨p,a,d,rfl,hp,ha,hd⟩:=M8 hk;intro F bs x w hs bs0 H0 w0 hm he Q hq;exact wp_cond_split (t:=true) (by have:=B6 hg.g hs hp hv;grind[Rep]) (λ_=>ht a ha F bs x w hs bs0 H0 w0 hm he Q hq) (λh=>by cases h)
theorem ExP.condF (hg:Gr P W0 G){s:St}{c:AOpd}{x y:ACode}(hv:ev G s c=some (.bool false))(ht:ExP P W0 m y s v K):ExP P W0 m (.cond c x y) s v K:=λk hk=>by obtain⟨p,a,d,rfl,hp,ha,hd⟩:=M8 hk;intro F bs x w hs bs0 H0 w0 hm he Q hq;exact wp_cond_split (t:=false) (by have:=B6 hg.g hs hp hv;grind[Rep]) (λh=>by cases h)<|λ_=>ht d hd F bs x w hs bs0 H0 w0 hm he Q hq
theorem ExP.block {s:St}{id:Nat}{x:ACode}(h:ExP P W0 m x s v K):ExP P W0 m (.block id x) s v K:=λc hc=>by obtain⟨a,rfl,ha⟩:=Oi hc;intro F bs x w hs bs0 H0 w0 hm he Q hq;exact wp_block<|h a ha F bs x w hs bs0 H0 w0 hm he _ λcv s' bs' a' w' h1 h2 h3 h4 h5=>hq cv s' bs' a' w' h1 h2 h3 h4 h5
def A0k (P:Program)(W0:World)(m:Nat)(c:ACode)(v:AVal)(K:St→Prop):Nat→St→Prop
 |0,_=>False|n+1,s=>ExP P W0 m c s v K∨ExM P W0 m c s λe s'=>e= .normal∧A0k P W0 m c v K n s'
theorem ExP.loop {c:ACode}(n:Nat){s:St}(h:A0k P W0 m c v K n s):ExP P W0 m (.loop c) s v K:=λk hk=>by
 obtain⟨k',rfl,hk'⟩:=G8 hk;intro F bs a w hs bs0 H0 w0 hm he Q hq;refine Ew (σ:=Nat) (λi a' w'=>∃s' bs',A0k P W0 m c v K i s'∧RS W0 F bs' s' a' w'∧Ext bs0 H0 w0 bs' s'.H w'∧a'.defers=a.defers) id (s:=n) ⟨s,bs,h,hs,he,Z⟩ ?_;rintro i a1 w1 ⟨s1,bs1,hi,hrs1,hext1,hd1⟩;cases i with
 |zero=>exact hi.elim
 |succ i=>
  rcases hi with hi|hi;·exact hi k' hk' F bs1 a1 w1 hrs1 bs0 H0 w0 hm hext1 _ λcv s' bs' a' w' h1 h2 h3 h4 h5=>hq cv s' bs' a' w' h1 h2 h3 h4<|h5.trans hd1
  ·refine hi k' hk' F bs1 a1 w1 hrs1 bs0 H0 w0 hm hext1 _ λe s' bs' a' w' hkk hrs hext hd=>?_;obtain⟨rfl,hkk⟩:=hkk;exact⟨i,⟨s',bs',hkk,hrs,hext,hd.trans hd1⟩,Nat.lt_succ_self i⟩
def Qh (P:Program)(W0:World)(m:Nat)(l:List AOper)(s:St)(v:AVal)(K:St→Prop):Prop:=
 ∀(ops:Array Oper) (i:Nat),Bc P ops (ops.toList.drop i)=some l→∀(F:Nat→Prop) (bs:List Nat) (a:Act) (w:World),RS W0 F bs s a w→∀(bs0:List Nat) (H0:Hz) (w0:World),H0.length=m→Ext bs0 H0 w0 bs s.H w→∀Q:Exit→Act→World→Prop,
  (∀cv s' bs' a' w',K s'→RS W0 F bs' s' a' w'→Rep F bs' s'.H w' v cv→Ext bs0 H0 w0 bs' s'.H w'→a'.defers=a.defers→Q (.panic<|pch cv) a' w')→wpOps P ops Q (List.range' i l.length) a w
theorem pCons (hg:Gr P W0 G){s:St}{o:AOper}{r:List AOper}(h:I6 P W0 G o s λs'=>Qh P W0 m r s' v K):Qh P W0 m (o::r) s v K:=λops i hc F bs a w hs bs0 H0 w0 hm he Q hq=>by
 obtain⟨x,xs,hd,hx,hxs⟩:=Eh hc;have hi:ops[i]?=some x:=by have h0:=congrArg (λl=>l[0]?) hd;grind
 have hr:ops.toList.drop (i+1)=xs:=by have:=congrArg (List.drop 1) hd;grind[List.drop_drop]
 have hP:=S9 hx h;simp only[lCo,List.range'_succ,wpOps,hi];refine Ir hg.g hs hP λs' bs' a' w' hk hrs hext hdf=>?_;exact hk ops (i+1) (by grind) F bs' a' w' hrs bs0 H0 w0 hm (he.trans hext) Q λcv s2 bs2 a2 w2 h1 h2 h3 h4 h5=>hq cv s2 bs2 a2 w2 h1 h2 h3 h4<|h5.trans hdf
variable {l : List (Nat × AVal)} {H : Hz} {n : Nat} {r : List AOper}
variable {H2 : Hz}
theorem Gi (hg:Gr P W0 G){g:Option (Nat×Bool)}(hgd:Gok g l){d:Nat}{op:AOp}{u:AVal}{side:List (Int×Int)}(h:aop G ⟨.al l,H,n⟩ op=some (.val u H2 side))(hd:(Nat.blt d n&&Nat.blt d 4094)=true)(hs:Ag side)(k:Qh P W0 m r ⟨.al ((d,u)::l),H2,n⟩ v K):Qh P W0 m (⟨some d,g,op⟩::r) ⟨.al l,H,n⟩ v K:=by refine pCons hg<|Lj hgd ?_;rw[h];exact⟨hs,hd,k⟩
theorem Zj {ops:Array Oper}{x:Oper}{d:Option Nat}{op:AOp}(hx:Be P ops x=some ⟨d,none,op⟩):x.dst=d∧x.guard=none∧Ar P x.op=some op:=by
 unfold Be at hx;cases hgx:D7 ops x.guard with
 |none=>rw[hgx]at hx;cases hx
 |some gx=>
  rw[hgx]at hx;simp only at hx;cases hop:Ar P x.op with
  |none=>rw[hop]at hx;cases hx
  |some o'=>
   rw[hop]at hx;injection hx with hx;injection hx with h1 h2 h3;refine⟨h1,?_,congrArg some h3⟩;subst h2;cases hg:x.guard with
   |none=>rfl
   |some gw=>
    rw[hg]at hgx;obtain⟨j,want⟩:=gw;simp only[D7]at hgx;cases hd':(ops[j]?).bind (·.dst)with
    |none=>rw[hd']at hgx;cases hgx
    |some d'=>rw[hd']at hgx;cases hgx
theorem Ym (hg:Gr P W0 G){d:Option Nat}{op:AOp}{f:Nat}{args:List AVal}(h:aop G ⟨.al l,H,n⟩ op=some (.call f args))(hc:Og P W0 f args H v H2)(hK:K ⟨.al l,H2,n⟩):Qh P W0 m (⟨d,none,op⟩::r) ⟨.al l,H,n⟩ v K:=λops i hco F bs a w hs bs0 H0 w0 hm he Q hq=>by
 obtain⟨x,xs,hdr,hx,hxs⟩:=Eh hco;have hi:ops[i]?=some x:=by have h0:=congrArg (λl=>l[0]?) hdr;grind
 obtain⟨_,hgd,hop⟩:=Zj hx;simp only[lCo,List.range'_succ,wpOps,hi];have hw:Region.wanted x (yielded ops a.tmps)=true:=A6l;rw[if_pos hw];refine .inl ?_;obtain⟨cargs,h1,h2⟩:=(Xc (P:=P) hg.g hs hop h) hc.1;unfold Oper.wp;rw[h1,Oper.upon_enter];refine Calls.mono (hc.2 F bs w cargs hs.heap h2) λe w' he'=>?_;obtain⟨cv,bs',rfl,k3,k4,k5⟩:=he';exact hq cv ⟨.al l,H2,n⟩ bs' a w' hK ⟨k4,hs.size,λt u hu=>Rep.ext k5 u _<|hs.env t u hu⟩ k3 (he.trans k5) Z
theorem pPan (hg:Gr P W0 G){d:Option Nat}{x:AOpd}{T:TypeId}{u:AVal}(h:ev G ⟨.al l,H,n⟩ x=some (.iface T u))(hK:K ⟨.al l,H,n⟩):Qh P W0 m (⟨d,none,.pan x⟩::r) ⟨.al l,H,n⟩ (.iface T u) K:=λops i hco F bs a w hs bs0 H0 w0 hm he Q hq=>by
 obtain⟨o,xs,hdr,hx,hxs⟩:=Eh hco;have hi:ops[i]?=some o:=by have h0:=congrArg (λl=>l[0]?) hdr;grind
 obtain⟨_,hgd,hop⟩:=Zj hx;simp only[lCo,List.range'_succ,wpOps,hi];have hw:Region.wanted o (yielded ops a.tmps)=true:=A6l;rw[if_pos hw];refine .inl ?_;obtain⟨y,hy,hxy⟩:=A4e hop;have hr:=B6 hg.g hs hxy h;have hr':=hr;simp only[Rep]at hr';obtain⟨u',hv,_⟩:=hr';have hexec:(execOp a.eval o).run P w= .halt (.panic<|a.eval y) w:=by simp[execOp,hy,hv,Instr.panic,goPanic]
 unfold Oper.wp;rw[hexec,Oper.upon_panic];exact hq _ ⟨.al l,H,n⟩ bs a w hK hs hr he Z
theorem ExP.ops (_hg:Gr P W0 G){l:List AOper}{s:St}(h:Qh P W0 m l s v K):ExP P W0 m (.ops l) s v K:=λc hc=>by obtain⟨id,ops,rfl,h1⟩:=Sj hc;intro F bs a w hs bs0 H0 w0 hm he Q hq;have hlen:=(Da h1).1;refine wp_region ?_;have:=h ops 0 (by grind) F bs a w hs bs0 H0 w0 hm he Q hq;grind[List.range_eq_range']
theorem Og.of_fn {f:Nat}{x:AFn}(hf:Gw P f=some x){args:List AVal}{H H':Hz}(hl:args.length≤4094){n:Nat}(hn:args.length+(x.n-args.length)=n)
 (h:ExP P W0 H.length x.code ⟨.al<|Ej 0 args,H,n⟩ v λs'=>s'.H=H'):Og P W0 f args H v H':=by
 obtain⟨fn,c,h1,h2,h3,h4,h5,h6⟩:=Jp hf;refine⟨⟨fn,c,h1,h2,h5⟩,λF bs w cargs hh hr=>?_⟩;have hrs:=G7 hh hr hl fn.ntmps;have hrs':RS W0 F bs ⟨.al<|Ej 0 args,H,n⟩ {tmps:=cargs.toArray++Array.replicate (fn.ntmps-cargs.toArray.size) undef,defers:=[]} w:=
  ⟨hrs.heap,A35,λt u hu=>hrs.env t u (by
   rw[Ds args 0 .leaf t Y];have hu:lk t (Ej 0 args)=some u:=hu;rw[Je]at hu
   grind)⟩
 refine calls_of_wp h1 h2<|h c h3 F bs _ w hrs' bs H w Z (Ext.refl _ _ _) _ λcv s' bs' a' w' k1 k2 k3 k4 k5=>?_;subst k1;exact⟨k5,cv,bs',Z,k3,k2.heap,k4⟩
end
end Go.Abs
