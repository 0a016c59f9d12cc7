/- A part of the proof that tabula/tabulalaw25.PackSums returns true for every input, each argument reading as it did (its card: the last text). No conditions of its own. -/
import Derived.Test.YtjlpdflobkhkcaaGreatDoorPJ
import Derived.Test.YtjlpdflobkhkcaaGreatDoorCards
import Derived.Test.YtjlpdflobkhkcaaGreatDoorTie
import Derived.ProofKit
import Derived.OpenShut
import Derived.Carry
import Derived.ChangeArms
import Derived.Deep.DeepHandedRow
import Derived.Deep.DeepWitnessRowRef
import Derived.Lib.LaidTab
import Derived.Lib.LaidU8T
import Derived.Lib.LaidIn
import Derived.LaidLaws
import Derived.SizedLaws
set_option linter.unusedVariables false
set_option linter.unusedSimpArgs false
set_option maxHeartbeats 4000000
namespace Go.Abs
open Go.Proofs Go.RowKit Go.Lib Go.ChangeShapes Go.WideShapes Go.ChangeAt
set_option maxRecDepth 100000
theorem hasI {n:Int}(h:IntKind.i64.has n):i64 n:=by simp[IntKind.has,IntKind.min,IntKind.max,IntKind.signed,IntKind.bits]at h;exact h
theorem wfI {n:Int}(h:(Lit.int .i64 n).wf=true):i64 n:=by simp[Lit.wf,IntKind.min,IntKind.max,IntKind.signed,IntKind.bits]at h;exact h
theorem list15 {α:Type}{l:List α}(h:l.length=15):∃a0 a1 a2 a3 a4 a5 a6 a7 a8 a9 a10 a11 a12 a13 a14,l=[a0,a1,a2,a3,a4,a5,a6,a7,a8,a9,a10,a11,a12,a13,a14]:=by match l,h with| [a0,a1,a2,a3,a4,a5,a6,a7,a8,a9,a10,a11,a12,a13,a14],_=>grind
theorem list7 {α:Type}{l:List α}(h:l.length=7):∃a0 a1 a2 a3 a4 a5 a6,l=[a0,a1,a2,a3,a4,a5,a6]:=by match l,h with| [a0,a1,a2,a3,a4,a5,a6],_=>grind
theorem list5 {α:Type}{l:List α}(h:l.length=5):∃a0 a1 a2 a3 a4,l=[a0,a1,a2,a3,a4]:=by match l,h with| [a0,a1,a2,a3,a4],_=>grind
theorem list4 {α:Type}{l:List α}(h:l.length=4):∃a0 a1 a2 a3,l=[a0,a1,a2,a3]:=by match l,h with| [a0,a1,a2,a3],_=>grind
theorem list3 {α:Type}{l:List α}(h:l.length=3):∃a0 a1 a2,l=[a0,a1,a2]:=by match l,h with| [a0,a1,a2],_=>grind
theorem list2 {α:Type}{l:List α}(h:l.length=2):∃a0 a1,l=[a0,a1]:=by match l,h with| [a0,a1],_=>grind
theorem A0j (s:ByteArray):(⟨s.data.toList.toArray⟩:ByteArray)=s:=by grind
section
variable {H : Type} {enc : TypeId × Value → H} {W : World} {b : Nat} {sp : Nat → Bool} {hd : Bool} {n : Nat} {x : DataW H × List MemPlace} {a : Value} {r : List Value}
theorem c3 :Tryz.prog.cellsOf 3=1:=Am
theorem c4 :Tryz.prog.cellsOf 4=1:=Am
theorem c9 :Tryz.prog.cellsOf 9=1:=Am
theorem gI1 (h:DataW.trod enc Tryz.prog W b sp hd n 3 [a]=some x):∃k,a= .int .i64 k∧i64 k:=by grind[DataW.trod_int,Tryz.underlying3,wfI]
theorem gfI (h:DataW.trod enc Tryz.prog W b sp hd n 3 (List.take (Tryz.prog.cellsOf 3) (a::r))=some x):∃k,a= .int .i64 k∧i64 k:=by grind[c3,gI1]
theorem gfB (h:DataW.trod enc Tryz.prog W b sp hd n 4 (List.take (Tryz.prog.cellsOf 4) (a::r))=some x):∃k,a= .bool k:=by grind[c4,DataW.trod_bool,Tryz.underlying4]
theorem gfS (h:DataW.trod enc Tryz.prog W b sp hd n 9 (List.take (Tryz.prog.cellsOf 9) (a::r))=some x):∃s,a= .string s∧x.1= .lit (.string s.data.toList):=by grind[c9,DataW.trod_string,Tryz.underlying9]
theorem gfA {a0 a1 a2:Value}(h:DataW.trod enc Tryz.prog W b sp hd n 59 (List.take (Tryz.prog.cellsOf 59) (a0::a1::a2::r))=some x):∃k0 k1 k2,(a0= .int .i64 k0∧i64 k0)∧(a1= .int .i64 k1∧i64 k1)∧(a2= .int .i64 k2∧i64 k2):=by rw[show Tryz.prog.cellsOf 59=3 by kernel_rfl]at h;obtain⟨ys,m4,rfl,_,_,hy,hg⟩:=DataW.trod_array Tryz.underlying59 h;obtain⟨y0,y1,y2,rfl⟩:=list3 hy;have g0:=hg 0 V;have g1:=hg 1 V;have g2:=hg 2 V;rw[c3]at g0 g1 g2;obtain⟨k0,h0⟩:=gI1 (x:=y0) (a:=a0) g0;obtain⟨k1,h1⟩:=gI1 (x:=y1) (a:=a1) g1;obtain⟨k2,h2⟩:=gI1 (x:=y2) (a:=a2) g2;grind
theorem gfD {a0 a1:Value}(h:DataW.trod enc Tryz.prog W b sp hd n 61 (List.take (Tryz.prog.cellsOf 61) (a0::a1::r))=some x):∃k0 k1,(a0= .int .i64 k0∧i64 k0)∧(a1= .int .i64 k1∧i64 k1):=by rw[show Tryz.prog.cellsOf 61=2 by kernel_rfl]at h;obtain⟨ys,m4,rfl,_,_,hy,hg⟩:=DataW.trod_struct Tryz.underlying61 h;obtain⟨y0,y1,rfl⟩:=list2 hy;obtain⟨k0,h0⟩:=gfI (x:=y0) (a:=a0) (r:=[a1])<|hg 0 _ rfl;obtain⟨k1,h1⟩:=gfI (x:=y1) (a:=a1) (r:=[])<|hg 1 _ rfl;grind
end
def rcC (c:RC):List Value:=[.int .i64 c.sn,.int .i64 c.rw,.int .i64 c.cl,.int .i64 c.kd,.int .i64 c.a0,.int .i64 c.a1,.int .i64 c.a2,.int .i64 c.b0,.int .i64 c.b1,.int .i64 c.b2,.int .i64 c.vk,.int .i64 c.vm,.int .i64 c.ve,.string ⟨c.vs.toArray⟩,.bool c.vb]
theorem Adg {H:Type}{enc:TypeId×Value→H}{W:World}{b:Nat}{sp:Nat→Bool}{hd:Bool}{n:Nat}{cs:List Value}{y:DataW H×List MemPlace}(h:DataW.trod enc Tryz.prog W b sp hd n 65 cs=some y):∃c:RC,Zt c∧c.vs.length∈y.1.weights Tryz.prog 65∧cs=rcC c:=by
 obtain⟨xs,m,rfl,rfl,hl,hxl,hf⟩:=DataW.trod_struct Tryz.underlying65 h;rw[show Tryz.prog.cellsOf 65=15 by kernel_rfl]at hl;obtain⟨a0,a1,a2,a3,a4,a5,a6,a7,a8,a9,a10,a11,a12,a13,a14,rfl⟩:=list15 hl;obtain⟨x0,x1,x2,x3,x4,x5,x6,rfl⟩:=list7 hxl;obtain⟨n0,rfl,i0⟩:=gfI (x:=x0)<|hf 0 _ rfl;obtain⟨n1,rfl,i1⟩:=gfI (x:=x1)<|hf 1 _ rfl;obtain⟨n2,rfl,i2⟩:=gfI (x:=x2)<|hf 2 _ rfl;obtain⟨n3,rfl,i3⟩:=gfI (x:=x3)<|hf 3 _ rfl;obtain⟨n4,n5,n6,⟨rfl,i4⟩,⟨rfl,i5⟩,⟨rfl,i6⟩⟩:=gfA (x:=x4)<|hf 4 _ rfl;obtain⟨n7,n8,n9,⟨rfl,i7⟩,⟨rfl,i8⟩,⟨rfl,i9⟩⟩:=gfA (x:=x5)<|hf 5 _ rfl;have f6:DataW.trod enc Tryz.prog W b sp hd m 63 (List.take (Tryz.prog.cellsOf 63) [a10,a11,a12,a13,a14])=some x6:=hf 6 _ rfl;rw[show Tryz.prog.cellsOf 63=5 by kernel_rfl]at f6;obtain⟨ys,m6,rfl,rfl,_,hy,hg⟩:=DataW.trod_struct Tryz.underlying63 f6;obtain⟨y0,y1,y2,y3,rfl⟩:=list4 hy;obtain⟨n10,rfl,i10⟩:=gfI (x:=y0) (a:=a10) (r:=[a11,a12,a13,a14])<|hg 0 _ rfl;obtain⟨n11,n12,⟨rfl,i11⟩,⟨rfl,i12⟩⟩:=gfD (x:=y1) (a0:=a11) (a1:=a12) (r:=[a13,a14])<|hg 1 _ rfl;obtain⟨s,rfl,hs⟩:=gfS (x:=y2) (a:=a13) (r:=[a14])<|hg 2 _ rfl;obtain⟨vb,rfl⟩:=gfB (x:=y3) (a:=a14) (r:=[])<|hg 3 _ rfl;refine⟨⟨n0,n1,n2,n3,n4,n5,n6,n7,n8,n9,n10,n11,n12,s.data.toList,vb⟩,⟨i0,i1,i2,i3,i4,i5,i6,i7,i8,i9,i10,i11,i12⟩,?_,?_⟩;·show s.data.toList.length∈DataW.weights Tryz.prog 65 (.agg _);unfold DataW.weights;rw[Tryz.underlying65];refine DataW.weights_mem_each (j:=6) Z Z _ ?_;show s.data.toList.length∈DataW.weights Tryz.prog 63 (.agg _);unfold DataW.weights;rw[Tryz.underlying63];refine DataW.weights_mem_each (j:=2) Z Z _ ?_;grind[DataW.weights]
 ·simp only[rcC,A0j]
theorem Nj {H:Type}{P:Program}{e:TypeId}:∀{ds:List (DataW H)}{d:DataW H},d∈ds→∀n∈d.weights P e,n∈DataW.weightsAll P e ds
 |d0::ds,d,h,n,hn=>by
  simp only[DataW.weightsAll,List.mem_append];rcases List.mem_cons.1 h with rfl|h;·grind
  ·exact .inr<|Nj h n hn
theorem pickL {α:Type}(d:α){Q:Nat→α→Prop}:∀{n:Nat},(∀i,i<n→∃x,Q i x)→∃l:List α,l.length=n∧∀i,i<n→Q i (l.getD i d)
 |0,_=>⟨[],rfl,λi hi=>by omega⟩|n+1,h=>by obtain⟨l,h1,h2⟩:=pickL d (n:=n) λi hi=>h i Y;obtain⟨x,hx⟩:=h n Y;refine⟨l++[x],by simp[h1],λi hi=>?_⟩;grind
def A30 (c:RC):Value:=.agg (rcC c).toArray
theorem rcRep {W:World}(c:RC):Rep (λ_=>False) [] [] W (rcV c) (A30 c):=by refine⟨rcC c,Z,?_⟩;simp_all[Aa,Rep,rcC]
theorem Ad1 {W:World}:∀(l:List RC),Aa (λ_=>False) [] [] W (l.map rcV) (l.map A30)
 | []=>Yf|c::l=>by simp only[List.map_cons,Aa];exact⟨_,_,rfl,rcRep c,Ad1 l⟩
theorem A0v (c:RC):(rcC c).length=15:=rfl
theorem flat_rc (l:List RC):flat (l.map A30)=l.flatMap rcC:=by induction l with|nil=>rfl|cons c l ih=>simp only[flat,List.map_cons,List.flatMap_cons]at ih⊢;rw[ih];simp[A30,Value.cells]
theorem A6o :∀{l:List RC}{j:Nat}{u:Value},(l.flatMap rcC)[j]?=some u→j/15<l.length∧(rcC<|l.getD (j/15) rc0)[j%15]?=some u
 | [],j,u,h=>Qz
 |c::l,j,u,h=>by
  rw[List.flatMap_cons]at h;by_cases hj:j<15;·grind[A0v]
  ·rw[List.getElem?_append_right (by rw[A0v];omega),A0v]at h;obtain⟨h1,h2⟩:=A6o h;grind
theorem Zb {H:Type}{enc:TypeId×Value→H}{W:World}{sp:Nat→Bool}{hd:Bool}{n:Nat}{v:Value}{y:DataW H×List MemPlace}(h:DataW.trod enc Tryz.prog W 0 sp hd n 22 [v]=some y)(hw:∀k∈y.1.weights Tryz.prog 22,k≤reachBytes)(hs:∀a len cap,v= .slice (some a) len cap→a.spot=none):
 ∃l:List RC,(∀c∈l,Zt c∧c.vs.length≤150000000000000)∧l.length≤150000000000000∧Rep (λ_=>False) [] [] W (.row 15<|l.map rcV) v:=by
 rcases DataW.trod_slice Tryz.underlying22 h with⟨hv,_⟩|⟨a,len,cap,elems,rest,m,rfl,hv,rfl,_,hlc,_,hel,hall,_⟩
 ·obtain rfl:v= .slice none 0 0:=by injection hv
  exact⟨[],(λc hc=>(by cases hc)),V,none,0,[],rfl,Yf,(λu hu=>(by cases hu)),rfl,rfl⟩
 ·obtain rfl:v= .slice (some a) len cap:=by injection hv
  have hsp:=hs a len cap Z;rw[show Tryz.prog.cellsOf 65=15 by kernel_rfl]at hall;have key:∀i,i<len→∃c:RC,(Zt c∧c.vs.length≤150000000000000)∧W.cells? 0 (a.add<|i*15) 15=some (rcC c):=λi hi=>by have h1:=hall i hi;rw[gGe Y,oBi]at h1;obtain⟨cs,h2,h3⟩:=h1;obtain⟨c,h4,h5,rfl⟩:=Adg h3;refine⟨c,⟨h4,?_⟩,h2⟩;have h6:=hw c.vs.length (by grind[DataW.weights,Tryz.underlying22,Nj,List.mem_map_of_mem,List.getElem_mem]);grind[reachBytes]
  obtain⟨l,hl,hq⟩:=pickL rc0 key;have hlen:len≤150000000000000:=by have h6:=hw (((elems.map (·.1)).length+(rest.map (·.1)).length)*Tryz.prog.bytesOf 65) (by grind[DataW.weights,Tryz.underlying22]);have hb:1≤Tryz.prog.bytesOf 65:=of_decide_eq_true Am;have h7:=Nat.le_trans (Nat.le_mul_of_pos_right _ hb) h6;grind[reachBytes]
  refine⟨l,λc hc=>?_,Y,some a,cap,l.map A30,by grind,Ad1 l,λu hu=>?_,hsp,by grind,λj u hj=>?_⟩;·grind[List.mem_iff_getElem]
  ·obtain⟨c,_,rfl⟩:=List.mem_map.1 hu;rfl
  ·rw[flat_rc]at hj;obtain⟨h1,h2⟩:=A6o hj;refine⟨⟨Ax,λh=>h⟩,?_⟩;obtain⟨_,_,h3⟩:=World.cells?_some (hq (j/15) Y).2;have h4:=h3 (j%15) Y;rw[h2]at h4;rw[←h4];congr 1;obtain⟨ab,ao,asp⟩:=a;simp only at hsp;subst hsp;unfold Addr.add;grind
end Go.Abs
namespace Go.Abs
open Go.Proofs Go.Shelf Go.RowKit Go.Lib Go.ChangeShapes Go.WideShapes Go.ChangeAt
open Go.Proofs.YtjlpdflobkhkcaaGreatDoor
set_option maxRecDepth 100000
theorem Ur {P:Program}{W:World}{name:String}{g t e:Nat}{l:List Bz}(hg:P.globalNamed name=some g)(hty:(P.globals[g]?).map (·.type)=some t)(ht:P.underlying t=some (.slice e))(he:P.underlying e=some .string)(hc:P.cellsOf e=1)
 (hl:0<l.length) (h:VarReads P W name<|.slice (l.map λs=>.lit<|.string s) []):Rep (λ_=>False) [] [] W (.eptr (.row 1<|l.map .str) 0) (.pointer<|some ⟨g,0,none⟩):=by
 obtain⟨g',t',cs,fuel,p,h1,h2,hv,hd⟩:=h;obtain rfl:=Option.some.inj<|hg.symm.trans h1;obtain rfl:=Option.some.inj<|hty.symm.trans h2;rcases DataW.trod_slice ht hd with⟨_,hx⟩|⟨a,len,cap,elems,rest,n,_,hcs,hx,_,hlc,hcm,hel,hall,_,_⟩;·simp at hx
 ·simp only[iP,DataW.slice.injEq]at hx;obtain⟨⟨hx1,hx2⟩,_⟩:=hx;have hle:l.length=len:=by have:=congrArg List.length hx1;grind
  have hadd:∀i,(a.add i).add 0=a.add i:=λi=>by simp[Addr.add]
  have hcell:∀i (hi:i<l.length),W.cell? (a.add i)=some (.string ⟨(l[i]).toArray⟩):=by
   intro i hi;have k1:=hall i Y;rw[hc,Nat.mul_one]at k1;have hie:i<elems.length:=Y;rw[gGe hie,oBi]at k1;obtain⟨cs',k2,k3⟩:=k1;obtain⟨s,rfl,k4,_⟩:=DataW.trod_string he k3;have k5:W.cell? (a.add i)=some (.string s):=by unfold World.cells? at k2;simp only[Nat.zero_le,if_true,List.range_succ,List.range_zero,List.nil_append,List.mapM_cons,List.mapM_nil,oBb,Option.pure_def,Option.bind_some,oBi,iS,List.cons.injEq,and_true]at k2;grind
   rw[k5];have k8:(l.map λs=>(DataW.lit (.string s):DataW Unit))[i]?=(elems.map (·.1))[i]?:=by rw[hx1]
   simp only[List.getElem?_map,gGe hi,gGe hie,Option.map_some,iS,k4,DataW.lit.injEq,Lit.string.injEq]at k8;rw[k8]
  have hsp:a.spot=none:=by have k5:=hcell 0 hl;rw[show a.add 0=a from rfl]at k5;unfold World.cell? at k5;split at k5;all_goals simp_all
  have hget:∀i (hi:i<l.length),W.cell? ⟨a.block,a.off+i,none⟩=some (.string ⟨(l[i]).toArray⟩):=by intro i hi;rw[←hcell i hi];congr 1;obtain⟨ab,ao,asp⟩:=a;grind[Addr.add]
  have hvar:=World.var?_cell hg hv 0;obtain⟨cl⟩:=cs;simp only at hcs;subst hcs;have hrl:∀(l:List Bz),Aa (λ_=>False) [] [] W (l.map .str) (l.map λs=>Value.string ⟨s.toArray⟩):=by intro l;induction l with|nil=>simp[Aa]|cons s l ih=>simp only[List.map_cons,Aa];exact⟨_,_,rfl,V2,ih⟩
  have hfl:∀(l:List Bz),flat (l.map λs=>Value.string ⟨s.toArray⟩)=l.map λs=>Value.string ⟨s.toArray⟩:=by intro l;induction l with|nil=>rfl|cons s l ih=>simp only[List.map_cons,flat,List.flatMap_cons]at ih⊢;rw[ih];simp[Value.cells]
  simp only[Rep];refine⟨g,0,.slice (some a) (l.map AVal.str).length cap,Ax,⟨some a,cap,l.map λs=>Value.string ⟨s.toArray⟩,Z,hrl l,?_,?_⟩,⟨Ax,λh=>h⟩,World.block_lt_of_cell? W ⟨g,0,none⟩ hvar,?_⟩;·intro u hu;obtain⟨s,_,rfl⟩:=List.mem_map.1 hu;rfl
  ·refine⟨hsp,L2,λj u hj=>?_⟩;grind
  grind[Value.cells]
theorem A3p {W:World}(h:laidMet Tryz.prog Rows.packSumsRow.laid W):Rep (λ_=>False) [] [] W (.eptr (.row 1 [.str [60,62],.str [60,61],.str [62,61],.str [61],.str [60],.str [62],.str [38],.str [43],.str [45],.str [42],.str [47],.str [94],.str [37],.str [40],.str [41],.str [44],.str [59],.str [58],.str [123],.str [125]]) 0) (.pointer<|some ⟨3,0,none⟩):=
 Ur (t:=36) (l:=[[60,62],[60,61],[62,61],[61],[60],[62],[38],[43],[45],[42],[47],[94],[37],[40],[41],[44],[59],[58],[123],[125]]) Am Am Tryz.underlying36 Tryz.underlying9 Am V
  (Lib.laidMet.reads h (n:= "tabula/lex.signs")<|.tail _<|.tail _<|.tail _<|.tail _<|.tail _<|.tail _<|.head _)
theorem A1h {W:World}(h:laidMet Tryz.prog Rows.packSumsRow.laid W):Rep (λ_=>False) [] [] W (.eptr (.row 1 [.str [35,78,85,76,76,33],.str [35,68,73,86,47,48,33],.str [35,86,65,76,85,69,33],.str [35,82,69,70,33],.str [35,78,65,77,69,63],.str [35,78,85,77,33],.str [35,78,47,65],.str [35,83,80,73,76,76,33],.str [35,67,73,82,67,33]]) 0) (.pointer<|some ⟨4,0,none⟩):=
 Ur (t:=36) (l:=[[35,78,85,76,76,33],[35,68,73,86,47,48,33],[35,86,65,76,85,69,33],[35,82,69,70,33],[35,78,65,77,69,63],[35,78,85,77,33],[35,78,47,65],[35,83,80,73,76,76,33],[35,67,73,82,67,33]]) Am Am Tryz.underlying36 Tryz.underlying9 Am V
  (Lib.laidMet.reads h (n:= "tabula/lex.faults")<|.tail _<|.tail _<|.tail _<|.tail _<|.tail _<|.tail _<|.tail _<|.head _)
theorem X2 {P:Program}{W:World}{name nm:String}{d:DataW Unit}{g t:Nat}{ms:Array (String×TypeId)}(hg:P.globalNamed name=some g)(hty:(P.globals[g]?).map (·.type)=some t)(hi:P.underlying t=some (.interface ms))
 (h:VarReads P W name<|.iface nm d):∃ev,W.cell? ⟨g,0,none⟩=some ev∧(ev= .nilIface∨∃te pe,ev= .iface te pe):=by
 obtain⟨g',t',cs,fuel,p,h1,h2,hv,hd⟩:=h;obtain rfl:=Option.some.inj<|hg.symm.trans h1;obtain rfl:=Option.some.inj<|hty.symm.trans h2;obtain⟨_,u,v,hcs,_,_⟩:=iface_of_trod hi hd;have hvar:=World.var?_cell hg hv 0;obtain⟨cl⟩:=cs;grind
theorem Y1 {W:World}(h:W.ShapedOpen Tryz.prog):∃m,W.cell? ⟨2,0,none⟩=some (.int .i64 m):=by
 obtain⟨cs,h1,h2,h3⟩:=h.1 2 #[.int .i64 0] 3 (of_decide_eq_true Am) Am;obtain⟨ts,h4,_,h5⟩:=h3 Am;obtain⟨cl⟩:=cs
 match cl,h2 with| [c],_=>obtain⟨u,h6,h7⟩:=h5 0 c rfl;have e:Tryz.prog.cellTypes Tryz.prog.depth 3=some [3]:=Am;obtain rfl:=Option.some.inj<|e.symm.trans h4;obtain rfl:(3:Nat)=u:=Option.some.inj h6;unfold Cell.ok at h7;grind[Tryz.underlying3,World.cell?]
theorem kn_laid {W:World}(h:laidMet Tryz.prog Rows.packSumsRow.laid W)(hs:W.ShapedOpen Tryz.prog):Kn W:=by
 refine⟨λg e hg=>?_,⟨Y1 hs,?_,?_,?_⟩⟩
 ·unfold GL at hg;simp only[lk]at hg;cases h2:Nat.beq g 3 with
  |true=>rw[h2,cond_true]at hg;cases hg;have:=nBq h2;subst this;exact A3p h
  |false=>
   rw[h2,cond_false]at hg;cases h3:Nat.beq g 4 with
   |true=>rw[h3,cond_true]at hg;cases hg;have:=nBq h3;subst this;exact A1h h
   |false=>rw[h3]at hg;cases hg
 ·have h1:(("unicode/utf8.first",Lib.firstData):String×DataW Unit)∈Rows.packSumsRow.laid:=by rw[show(Lib.firstData:DataW Unit)=Rows.laid_unicode_utf8_first by kernel_rfl];exact .tail _ (.tail _<|.tail _<|.tail _<|.tail _<|.tail _<|.tail _<|.tail _<|.head _)
  have h2:(("unicode/utf8.acceptRanges",Lib.acceptData):String×DataW Unit)∈Rows.packSumsRow.laid:=by rw[show(Lib.acceptData:DataW Unit)=Rows.laid_unicode_utf8_acceptRanges by kernel_rfl];exact .tail _<|.tail _<|.tail _<|.head _
  exact utf8Tabs_of_readsT (U8Types.of196 Tryz.laysValid) ⟨Am,Am,Am,Am,Am,Am,Am⟩ (Lib.laidMet.reads h h1)<|Lib.laidMet.reads h h2
 ·exact X2 (t:=110) Am Am Tryz.underlying110<|Lib.laidMet.reads h (n:= "strconv.ErrSyntax")<|.tail _<|.tail _<|.tail _<|.tail _<|.tail _<|.head _
 ·exact X2 (t:=110) Am Am Tryz.underlying110<|Lib.laidMet.reads h (n:= "strconv.ErrRange")<|.tail _<|.tail _<|.tail _<|.tail _<|.head _
end Go.Abs
namespace Go.Proofs.YtjlpdflobkhkcaaGreatDoor.packSums
open Go.Abs Go.Shelf Go.ChangeShapes Go.WideShapes Go.ChangeAt Go.RowKit
set_option maxRecDepth 100000
theorem own :ownKnob Tryz.prog.godebug=none:=Am
theorem A0z :laidOutB Tryz.prog=true:=Am
theorem cellI {P:Program}{w:World}{b:Nat}{t:TypeId}{k:IntKind}{v:Value}(ht:P.underlying t=some (.int k))(h:Cell.okWide P w .any b t v):∃n,v= .int k n∧k.has n:=by unfold Cell.okWide at h;rw[ht]at h;cases v<;>simp_all[Cell.ok]
theorem Ado {P:Program}{w:World}{b:Nat}{t e:TypeId}{a:Addr}{len cap:Nat}(ht:P.underlying t=some (.slice e))(h:Cell.okWide P w .any b t<|.slice (some a) len cap):a.spot=none:=by unfold Cell.okWide at h;rw[ht]at h;simp only[Cell.ok,ht]at h;exact h.2.2.2.1
theorem c22 :Tryz.prog.cellsOf 22=1:=Am
theorem Aco (H:Type)(enc:TypeId×Value→H)(W:World)(base:Nat)(args:Array Value)(ds gs:List<|DataW H)(before:List MemPlace)
 (hval:∀(j:Nat) t v,Tryz.f3.params[j]?=some t→args[j]?=some v→Value.okWide Tryz.prog W .any base t v)
 (hW:DataW.Whole enc Tryz.prog Tryz.f3.params.toList Rows.packSumsSpec.vars false W args.toList ds gs before) (hR:(DataW.weightsEach Tryz.prog (Tryz.f3.params.toList++(OpenSpec.ofChange Rows.packSumsSpec).bare.plain.varTypes Tryz.prog)<|ds++gs).all (· ≤reachBytes)=true) (hL:laidMetH Tryz.prog Rows.packSumsRow.laid W) (hS:W.ShapedOpen Tryz.prog):
 Calls Tryz.prog 3 args W λe W'=>∃v,e= .returned v∧Rows.packSumsSpec.post enc Tryz.prog Tryz.f3 false true false false W args v W':=by
 have hW':=hW;obtain⟨p,q,hA0,hV,rfl,hfz,hnd⟩:=hW;have hA:DataW.TrodAll enc Tryz.prog W 0 (λ_=>true) true Tryz.f3.params.toList args.toList ds p:=hA0;have hk:Kn W:=kn_laid (show laidMet Tryz.prog Rows.packSumsRow.laid W from hL) hS;rw[Tryz.params3]at hA hval;obtain⟨v0,vs0,d0,ds0,p0,q0,hargs,rfl,rfl,h0,r0⟩:=trodAll_cons hA;obtain⟨v1,vs1,d1,ds1,p1,q1,rfl,rfl,rfl,h1,r1⟩:=trodAll_cons r0;obtain⟨v2,vs2,d2,ds2,p2,q2,rfl,rfl,rfl,h2,r2⟩:=trodAll_cons r1;obtain⟨rfl,rfl,rfl⟩:=trodAll_nil r2;obtain rfl:args= #[v0,v1,v2]:=by grind
 obtain⟨rfl,rfl⟩:=trodVars_none hV;have o0:=hval 0 24 v0 Z Z;have o1:=hval 1 3 v1 Z Z;have o2:=hval 2 5 v2 Z Z;unfold Value.okWide at o0 o1 o2;rw[Tryz.underlying24]at o0;rw[Tryz.underlying3]at o1;rw[Tryz.underlying5]at o2;obtain⟨cs0,rfl,z0,ts0,k0,_,w0⟩:=o0;obtain⟨S,rfl,hS2⟩:=cellI Tryz.underlying3 o1;obtain⟨cc,rfl,hcc⟩:=cellI Tryz.underlying5 o2;obtain rfl:=Option.some.inj<|(show Tryz.prog.cellTypes Tryz.prog.depth 24=some [3,22,4,4,22]by kernel_rfl).symm.trans k0;obtain⟨cs0⟩:=cs0;obtain⟨b0,b1,b2,b3,b4,rfl⟩:=list5 (l:=cs0) (by rw[show Tryz.prog.cellsOf 24=5 by kernel_rfl]at z0;exact z0);have s1:∀a len cap,b1= .slice (some a) len cap→a.spot=none:=λa len cap e=>by obtain⟨u,hu,hc⟩:=w0 1 b1 rfl;grind[Ado,Tryz.underlying22]
 have s4:∀a len cap,b4= .slice (some a) len cap→a.spot=none:=λa len cap e=>by obtain⟨u,hu,hc⟩:=w0 4 b4 rfl;grind[Ado,Tryz.underlying22]
 have h0k:=h0;obtain⟨n0,hn0⟩:=h0;have hn0':DataW.trod enc Tryz.prog W 0 (λ_=>true) true n0 24 [b0,b1,b2,b3,b4]=some (d0,p0):=hn0;obtain⟨xs,m,rfl,hx,_,hxl,hf⟩:=DataW.trod_struct Tryz.underlying24 hn0';obtain⟨x0,x1,x2,x3,x4,rfl⟩:=list5 hxl;obtain⟨sh,rfl,ish⟩:=gfI (x:=x0) (a:=b0) (r:=[b1,b2,b3,b4])<|hf 0 _ rfl;have f1:DataW.trod enc Tryz.prog W 0 (λ_=>true) true m 22 (List.take (Tryz.prog.cellsOf 22) [b1,b2,b3,b4])=some x1:=hf 1 _ rfl;obtain⟨nm,rfl⟩:=gfB (x:=x2) (a:=b2) (r:=[b3,b4])<|hf 2 _ rfl;obtain⟨tb,rfl⟩:=gfB (x:=x3) (a:=b3) (r:=[b4])<|hf 3 _ rfl;have f4:DataW.trod enc Tryz.prog W 0 (λ_=>true) true m 22 (List.take (Tryz.prog.cellsOf 22) [b4])=some x4:=hf 4 _ rfl;rw[c22]at f1 f4;have hwt:∀k,k∈d0.weights Tryz.prog 24→k≤reachBytes:=λk hkk=>by have h3:=List.all_eq_true.1 hR _<|DataW.weights_mem_each (j:=0) (by simp_all) Z _ hkk;grind
 have hd0:d0= .agg [x0.1,x1.1,x2.1,x3.1,x4.1]:=congrArg Prod.fst hx
 have hw1:∀k∈x1.1.weights Tryz.prog 22,k≤reachBytes:=λk hkk=>hwt k (by
  rw[hd0];unfold DataW.weights;rw[Tryz.underlying24]
  exact DataW.weights_mem_each (j:=1) Z Z _ hkk)
 have hw4:∀k∈x4.1.weights Tryz.prog 22,k≤reachBytes:=λk hkk=>hwt k (by
  rw[hd0];unfold DataW.weights;rw[Tryz.underlying24]
  exact DataW.weights_mem_each (j:=4) Z Z _ hkk)
 obtain⟨l1,g1,e1,t1⟩:=Zb f1 hw1 s1;obtain⟨l4,g4,e4,t4⟩:=Zb f4 hw4 s4;have hcb:0≤cc∧cc≤255:=by grind[IntKind.has,IntKind.min,IntKind.max,IntKind.signed,IntKind.bits]
 have walk:=Go.Abs.packSums hk (b:=⟨sh,l1,nm,tb,l4⟩) ⟨ish,g1,g4,e1,e4⟩ (hasI hS2) (c:=cc.toNat) Y;have hh:Ad W (λ_=>False) [] [] W:=⟨rfl,Below.refl _ _,λb hb=>by simp at hb,List.nodup_nil,λb hb=>hb.elim,λi o b hi=>by simp at hi⟩;have hlt:∀x∈p0++(p1++p2),x.block<W.heap.size:=λx hx=>by have:=hW'.lt x (by grind);omega
 refine(walk.2 (λ_=>False) [] W [.agg #[.int .i64 sh,b1,.bool nm,.bool tb,b4],.int .i64 S,.int .u8 cc] hh ?_).mono ?_;·refine⟨_,_,Z,⟨_,Z,⟨_,_,Z,Z,_,_,Z,t1,_,_,Z,Z,_,_,Z,Z,_,_,Z,t4,Z⟩⟩,_,_,Z,Z,_,_,Z,?_,Z⟩;show Value.int .u8 cc= .int .u8 ((cc.toNat:Nat):Int);grind
 ·rintro e W' ⟨cv,bs',rfl,hr,hbase,hx2⟩;obtain rfl:cv= .bool true:=by grind[Rep]
  refine⟨_,rfl,_,_,_,[],p0++(p1++p2),[],hW',?_,?_,?_,hbase.base.frame _,λh=>by cases h⟩;·exact trodAll_mk1<|shut_bool Tryz.underlying4 _
  ·rw[Tryz.params3];exact trodAll_mk3 (Below.trod A0z Am (of_decide_eq_true Am) h0k hbase.base λx hx=>hlt x<|List.mem_append_left _ hx) (Below.trod A0z Am (of_decide_eq_true Am) h1 hbase.base λx hx=>hlt x<|List.mem_append_right _<|List.mem_append_left _ hx)<|Below.trod A0z Am (of_decide_eq_true Am) h2 hbase.base λx hx=>hlt x<|List.mem_append_right _<|List.mem_append_right _ hx
  ·rfl
end Go.Proofs.YtjlpdflobkhkcaaGreatDoor.packSums
