/- A part of the proof that tabula/tabulalaw25.PackBack returns true for every input, each argument reading as it did (its card: the last text). No conditions of its own. -/
import Derived.Test.YtlfcfgbbhlgocaaGreatDoorTH
import Derived.Test.YtlfcfgbbhlgocaaGreatDoorCards
import Derived.Test.YtlfcfgbbhlgocaaGreatDoorTie
import Derived.ProofKit
import Derived.OpenShut
import Derived.Carry
import Derived.ChangeArms
import Derived.Deep.DeepHandedRow
import Derived.Deep.DeepWitnessRowRef
import Derived.Lib.LaidTab
import Derived.Lib.LaidU8T
import Derived.Lib.LaidIn
import Derived.LaidLaws
import Derived.SizedLaws
set_option linter.unusedVariables false
set_option linter.unusedSimpArgs false
set_option maxHeartbeats 4000000
open Go.Addr renaming add->dT
open Go.DataW renaming weights->kU,trod->kV,trod_struct->kZ,weights_mem_each->lG,trod_string->lI
open Go.Lib.laidMet renaming reads->kT
open Go.Proofs.Tryz renaming prog->gH,underlying22->lD,underlying9->lE,underlying111->lH
open Go.Value renaming string->lF,cells->lJ
open List renaming take->kY,map_cons->jZ,flatMap_cons->lA
open Option.some renaming inj->kW
namespace Go.Abs
open Go.Proofs Go.RowKit Go.Lib Go.ChangeShapes Go.WideShapes Go.ChangeAt
set_option maxRecDepth 100000
theorem wfI {n:Int}(h:(Lit.int .i64 n).wf=true):i64 n:=by simp[Lit.wf,IntKind.min,IntKind.max,IntKind.signed,IntKind.bits]at h;exact h
theorem list15 {α:Type}{l:List α}(h:l.length=15):∃a0 a1 a2 a3 a4 a5 a6 a7 a8 a9 a10 a11 a12 a13 a14,l=[a0,a1,a2,a3,a4,a5,a6,a7,a8,a9,a10,a11,a12,a13,a14]:=by match l,h with| [a0,a1,a2,a3,a4,a5,a6,a7,a8,a9,a10,a11,a12,a13,a14],_=>grind
theorem list7 {α:Type}{l:List α}(h:l.length=7):∃a0 a1 a2 a3 a4 a5 a6,l=[a0,a1,a2,a3,a4,a5,a6]:=by match l,h with| [a0,a1,a2,a3,a4,a5,a6],_=>grind
theorem list5 {α:Type}{l:List α}(h:l.length=5):∃a0 a1 a2 a3 a4,l=[a0,a1,a2,a3,a4]:=by match l,h with| [a0,a1,a2,a3,a4],_=>grind
theorem list4 {α:Type}{l:List α}(h:l.length=4):∃a0 a1 a2 a3,l=[a0,a1,a2,a3]:=by match l,h with| [a0,a1,a2,a3],_=>grind
theorem list3 {α:Type}{l:List α}(h:l.length=3):∃a0 a1 a2,l=[a0,a1,a2]:=by match l,h with| [a0,a1,a2],_=>grind
theorem list2 {α:Type}{l:List α}(h:l.length=2):∃a0 a1,l=[a0,a1]:=by match l,h with| [a0,a1],_=>grind
theorem AP (s:ByteArray):(⟨s.data.toList.toArray⟩:ByteArray)=s:=by grind
section
variable {H : Type} {enc : TypeId × Value → H} {W : World} {b : Nat} {sp : Nat → Bool} {hd : Bool} {n : Nat} {x : DataW H × List MemPlace} {a : Value} {r : List Value}
theorem kc3 :gH.cellsOf 3=1:=Ar
theorem kc4 :gH.cellsOf 4=1:=Ar
theorem kc9 :gH.cellsOf 9=1:=Ar
theorem gI1 (h:kV enc gH W b sp hd n 3 [a]=some x):∃k,a= .int .i64 k∧i64 k:=by grind[DataW.trod_int,Tryz.underlying3,wfI]
theorem gfI (h:kV enc gH W b sp hd n 3 (kY (gH.cellsOf 3) (a::r))=some x):∃k,a= .int .i64 k∧i64 k:=by grind[kc3,gI1]
theorem gfB (h:kV enc gH W b sp hd n 4 (kY (gH.cellsOf 4) (a::r))=some x):∃k,a= .bool k:=by grind[kc4,DataW.trod_bool,Tryz.underlying4]
theorem gfS (h:kV enc gH W b sp hd n 9 (kY (gH.cellsOf 9) (a::r))=some x):∃s,a= .string s∧x.1= .lit (.string s.data.toList):=by grind[kc9,lI,lE]
theorem gfA {a0 a1 a2:Value}(h:kV enc gH W b sp hd n 52 (kY (gH.cellsOf 52) (a0::a1::a2::r))=some x):∃k0 k1 k2,(a0= .int .i64 k0∧i64 k0)∧(a1= .int .i64 k1∧i64 k1)∧(a2= .int .i64 k2∧i64 k2):=by rw[show gH.cellsOf 52=3 by kernel_rfl]at h;obtain⟨ys,m4,rfl,_,_,hy,hg⟩:=DataW.trod_array Tryz.underlying52 h;obtain⟨y0,y1,y2,rfl⟩:=list3 hy;have g0:=hg 0 V;have g1:=hg 1 V;have g2:=hg 2 V;rw[kc3]at g0 g1 g2;obtain⟨k0,h0⟩:=gI1 (x:=y0) (a:=a0) g0;obtain⟨k1,h1⟩:=gI1 (x:=y1) (a:=a1) g1;obtain⟨k2,h2⟩:=gI1 (x:=y2) (a:=a2) g2;grind
theorem gfD {a0 a1:Value}(h:kV enc gH W b sp hd n 54 (kY (gH.cellsOf 54) (a0::a1::r))=some x):∃k0 k1,(a0= .int .i64 k0∧i64 k0)∧(a1= .int .i64 k1∧i64 k1):=by rw[show gH.cellsOf 54=2 by kernel_rfl]at h;obtain⟨ys,m4,rfl,_,_,hy,hg⟩:=kZ Tryz.underlying54 h;obtain⟨y0,y1,rfl⟩:=list2 hy;obtain⟨k0,h0⟩:=gfI (x:=y0) (a:=a0) (r:=[a1])<|hg 0 _ rfl;obtain⟨k1,h1⟩:=gfI (x:=y1) (a:=a1) (r:=[])<|hg 1 _ rfl;grind
end
def rcC (c:RC):List Value:=[.int .i64 c.sn,.int .i64 c.rw,.int .i64 c.cl,.int .i64 c.kd,.int .i64 c.a0,.int .i64 c.a1,.int .i64 c.a2,.int .i64 c.b0,.int .i64 c.b1,.int .i64 c.b2,.int .i64 c.vk,.int .i64 c.vm,.int .i64 c.ve,.string ⟨c.vs.toArray⟩,.bool c.vb]
theorem TE {H:Type}{enc:TypeId×Value→H}{W:World}{b:Nat}{sp:Nat→Bool}{hd:Bool}{n:Nat}{cs:List Value}{y:DataW H×List MemPlace}(h:kV enc gH W b sp hd n 58 cs=some y):∃c:RC,DK c∧c.vs.length∈y.1.weights gH 58∧cs=rcC c:=by
 obtain⟨xs,m,rfl,rfl,hl,hxl,hf⟩:=kZ Tryz.underlying58 h;rw[show gH.cellsOf 58=15 by kernel_rfl]at hl;obtain⟨a0,a1,a2,a3,a4,a5,a6,a7,a8,a9,a10,a11,a12,a13,a14,rfl⟩:=list15 hl;obtain⟨x0,x1,x2,x3,x4,x5,x6,rfl⟩:=list7 hxl;obtain⟨n0,rfl,i0⟩:=gfI (x:=x0)<|hf 0 _ rfl;obtain⟨n1,rfl,i1⟩:=gfI (x:=x1)<|hf 1 _ rfl;obtain⟨n2,rfl,i2⟩:=gfI (x:=x2)<|hf 2 _ rfl;obtain⟨n3,rfl,i3⟩:=gfI (x:=x3)<|hf 3 _ rfl;obtain⟨n4,n5,n6,⟨rfl,i4⟩,⟨rfl,i5⟩,⟨rfl,i6⟩⟩:=gfA (x:=x4)<|hf 4 _ rfl;obtain⟨n7,n8,n9,⟨rfl,i7⟩,⟨rfl,i8⟩,⟨rfl,i9⟩⟩:=gfA (x:=x5)<|hf 5 _ rfl;have f6:kV enc gH W b sp hd m 56 (kY (gH.cellsOf 56) [a10,a11,a12,a13,a14])=some x6:=hf 6 _ rfl;rw[show gH.cellsOf 56=5 by kernel_rfl]at f6;obtain⟨ys,m6,rfl,rfl,_,hy,hg⟩:=kZ Tryz.underlying56 f6;obtain⟨y0,y1,y2,y3,rfl⟩:=list4 hy;obtain⟨n10,rfl,i10⟩:=gfI (x:=y0) (a:=a10) (r:=[a11,a12,a13,a14])<|hg 0 _ rfl;obtain⟨n11,n12,⟨rfl,i11⟩,⟨rfl,i12⟩⟩:=gfD (x:=y1) (a0:=a11) (a1:=a12) (r:=[a13,a14])<|hg 1 _ rfl;obtain⟨s,rfl,hs⟩:=gfS (x:=y2) (a:=a13) (r:=[a14])<|hg 2 _ rfl;obtain⟨vb,rfl⟩:=gfB (x:=y3) (a:=a14) (r:=[])<|hg 3 _ rfl;refine⟨⟨n0,n1,n2,n3,n4,n5,n6,n7,n8,n9,n10,n11,n12,s.data.toList,vb⟩,⟨i0,i1,i2,i3,i4,i5,i6,i7,i8,i9,i10,i11,i12⟩,?_,?_⟩;·show s.data.toList.length∈kU gH 58 (.agg _);unfold kU;rw[Tryz.underlying58];refine lG (j:=6) Z Z _ ?_;show s.data.toList.length∈kU gH 56 (.agg _);unfold kU;rw[Tryz.underlying56];refine lG (j:=2) Z Z _ ?_;grind[kU]
 ·simp only[rcC,AP]
theorem O1 {H:Type}{P:Program}{e:TypeId}:∀{ds:List (DataW H)}{d:DataW H},d∈ds→∀n∈d.weights P e,n∈DataW.weightsAll P e ds
 |d0::ds,d,h,n,hn=>by
  simp only[DataW.weightsAll,List.mem_append];rcases List.mem_cons.1 h with rfl|h;·grind
  ·exact .inr<|O1 h n hn
theorem pickL {α:Type}(d:α){Q:Nat→α→Prop}:∀{n:Nat},(∀i,i<n→∃x,Q i x)→∃l:List α,l.length=n∧∀i,i<n→Q i (l.getD i d)
 |0,_=>⟨[],rfl,λi hi=>by omega⟩|n+1,h=>by obtain⟨l,h1,h2⟩:=pickL d (n:=n) λi hi=>h i Y;obtain⟨x,hx⟩:=h n Y;refine⟨l++[x],by simp[h1],λi hi=>?_⟩;grind
def FZ (c:RC):Value:=.agg (rcC c).toArray
theorem rcRep {W:World}(c:RC):Rep (λ_=>False) [] [] W (rcV c) (FZ c):=by refine⟨rcC c,Z,?_⟩;simp_all[Ab,Rep,rcC]
theorem RP {W:World}:∀(l:List RC),Ab (λ_=>False) [] [] W (l.map rcV) (l.map FZ)
 | []=>Z4|c::l=>by simp only[jZ,Ab];exact⟨_,_,rfl,rcRep c,RP l⟩
theorem AU (c:RC):(rcC c).length=15:=rfl
theorem flat_rc (l:List RC):flat (l.map FZ)=l.flatMap rcC:=by induction l with|nil=>rfl|cons c l ih=>simp only[flat,jZ,lA]at ih⊢;rw[ih];simp[FZ,lJ]
theorem LD :∀{l:List RC}{j:Nat}{u:Value},(l.flatMap rcC)[j]?=some u→j/15<l.length∧(rcC<|l.getD (j/15) rc0)[j%15]?=some u
 | [],j,u,h=>Tf
 |c::l,j,u,h=>by
  rw[lA]at h;by_cases hj:j<15;·grind[AU]
  ·rw[List.getElem?_append_right (by rw[AU];omega),AU]at h;obtain⟨h1,h2⟩:=LD h;grind
theorem Zb {H:Type}{enc:TypeId×Value→H}{W:World}{sp:Nat→Bool}{hd:Bool}{n:Nat}{v:Value}{y:DataW H×List MemPlace}(h:kV enc gH W 0 sp hd n 22 [v]=some y)(hw:∀k∈y.1.weights gH 22,k≤reachBytes)(hs:∀a len cap,v= .slice (some a) len cap→a.spot=none):
 ∃l:List RC,(∀c∈l,DK c∧c.vs.length≤150000000000000)∧l.length≤150000000000000∧Rep (λ_=>False) [] [] W (.row 15<|l.map rcV) v:=by
 rcases DataW.trod_slice lD h with⟨hv,_⟩|⟨a,len,cap,elems,rest,m,rfl,hv,rfl,_,hlc,_,hel,hall,_⟩
 ·obtain rfl:v= .slice none 0 0:=by injection hv
  exact⟨[],(λc hc=>(by cases hc)),V,none,0,[],rfl,Z4,(λu hu=>(by cases hu)),rfl,rfl⟩
 ·obtain rfl:v= .slice (some a) len cap:=by injection hv
  have hsp:=hs a len cap Z;rw[show gH.cellsOf 58=15 by kernel_rfl]at hall;have key:∀i,i<len→∃c:RC,(DK c∧c.vs.length≤150000000000000)∧W.cells? 0 (a.add<|i*15) 15=some (rcC c):=λi hi=>by have h1:=hall i hi;rw[gGe Y,oBi]at h1;obtain⟨cs,h2,h3⟩:=h1;obtain⟨c,h4,h5,rfl⟩:=TE h3;refine⟨c,⟨h4,?_⟩,h2⟩;have h6:=hw c.vs.length (by grind[kU,lD,O1,List.mem_map_of_mem,List.getElem_mem]);grind[reachBytes]
  obtain⟨l,hl,hq⟩:=pickL rc0 key;have hlen:len≤150000000000000:=by have h6:=hw (((elems.map (·.1)).length+(rest.map (·.1)).length)*gH.bytesOf 58) (by grind[kU,lD]);have hb:1≤gH.bytesOf 58:=of_decide_eq_true Ar;have h7:=Nat.le_trans (Nat.le_mul_of_pos_right _ hb) h6;grind[reachBytes]
  refine⟨l,λc hc=>?_,Y,some a,cap,l.map FZ,by grind,RP l,λu hu=>?_,hsp,by grind,λj u hj=>?_⟩;·grind[List.mem_iff_getElem]
  ·obtain⟨c,_,rfl⟩:=List.mem_map.1 hu;rfl
  ·rw[flat_rc]at hj;obtain⟨h1,h2⟩:=LD hj;refine⟨⟨B4,λh=>h⟩,?_⟩;obtain⟨_,_,h3⟩:=World.cells?_some (hq (j/15) Y).2;have h4:=h3 (j%15) Y;rw[h2]at h4;rw[←h4];congr 1;obtain⟨ab,ao,asp⟩:=a;simp only at hsp;subst hsp;unfold dT;grind
end Go.Abs
namespace Go.Abs
open Go.Proofs Go.Shelf Go.RowKit Go.Lib Go.ChangeShapes Go.WideShapes Go.ChangeAt
open Go.Proofs.YtlfcfgbbhlgocaaGreatDoor
set_option maxRecDepth 100000
theorem Vk {P:Program}{W:World}{name:String}{g t e:Nat}{l:List Bz}(hg:P.globalNamed name=some g)(hty:(P.globals[g]?).map (·.type)=some t)(ht:P.underlying t=some (.slice e))(he:P.underlying e=some .string)(hc:P.cellsOf e=1)
 (hl:0<l.length) (h:VarReads P W name<|.slice (l.map λs=>.lit<|.string s) []):Rep (λ_=>False) [] [] W (.eptr (.row 1<|l.map .str) 0) (.pointer<|some ⟨g,0,none⟩):=by
 obtain⟨g',t',cs,fuel,p,h1,h2,hv,hd⟩:=h;obtain rfl:=kW<|hg.symm.trans h1;obtain rfl:=kW<|hty.symm.trans h2;rcases DataW.trod_slice ht hd with⟨_,hx⟩|⟨a,len,cap,elems,rest,n,_,hcs,hx,_,hlc,hcm,hel,hall,_,_⟩;·simp at hx
 ·simp only[iP,DataW.slice.injEq]at hx;obtain⟨⟨hx1,hx2⟩,_⟩:=hx;have hle:l.length=len:=by have:=congrArg List.length hx1;grind
  have hadd:∀i,(a.add i).add 0=a.add i:=λi=>by simp[dT]
  have hcell:∀i (hi:i<l.length),W.cell? (a.add i)=some (.string ⟨(l[i]).toArray⟩):=by
   intro i hi;have k1:=hall i Y;rw[hc,Nat.mul_one]at k1;have hie:i<elems.length:=Y;rw[gGe hie,oBi]at k1;obtain⟨cs',k2,k3⟩:=k1;obtain⟨s,rfl,k4,_⟩:=lI he k3;have k5:W.cell? (a.add i)=some (.string s):=by unfold World.cells? at k2;simp only[Nat.zero_le,if_true,List.range_succ,List.range_zero,List.nil_append,List.mapM_cons,List.mapM_nil,oBb,Option.pure_def,Option.bind_some,oBi,iS,List.cons.injEq,and_true]at k2;grind
   rw[k5];have k8:(l.map λs=>(DataW.lit (.string s):DataW Unit))[i]?=(elems.map (·.1))[i]?:=by rw[hx1]
   simp only[List.getElem?_map,gGe hi,gGe hie,Option.map_some,iS,k4,DataW.lit.injEq,Lit.string.injEq]at k8;rw[k8]
  have hsp:a.spot=none:=by have k5:=hcell 0 hl;rw[show a.add 0=a from rfl]at k5;unfold World.cell? at k5;split at k5;all_goals simp_all
  have hget:∀i (hi:i<l.length),W.cell? ⟨a.block,a.off+i,none⟩=some (.string ⟨(l[i]).toArray⟩):=by intro i hi;rw[←hcell i hi];congr 1;obtain⟨ab,ao,asp⟩:=a;grind[dT]
  have hvar:=World.var?_cell hg hv 0;obtain⟨cl⟩:=cs;simp only at hcs;subst hcs;have hrl:∀(l:List Bz),Ab (λ_=>False) [] [] W (l.map .str) (l.map λs=>lF ⟨s.toArray⟩):=by intro l;induction l with|nil=>simp[Ab]|cons s l ih=>simp only[jZ,Ab];exact⟨_,_,rfl,Vy,ih⟩
  have hfl:∀(l:List Bz),flat (l.map λs=>lF ⟨s.toArray⟩)=l.map λs=>lF ⟨s.toArray⟩:=by intro l;induction l with|nil=>rfl|cons s l ih=>simp only[jZ,flat,lA]at ih⊢;rw[ih];simp[lJ]
  simp only[Rep];refine⟨g,0,.slice (some a) (l.map AVal.str).length cap,B4,⟨some a,cap,l.map λs=>lF ⟨s.toArray⟩,Z,hrl l,?_,?_⟩,⟨B4,λh=>h⟩,World.block_lt_of_cell? W ⟨g,0,none⟩ hvar,?_⟩;·intro u hu;obtain⟨s,_,rfl⟩:=List.mem_map.1 hu;rfl
  ·refine⟨hsp,Jo,λj u hj=>?_⟩;grind
  grind[lJ]
theorem EY {W:World}(h:laidMet gH Rows.packCutRow.laid W):Rep (λ_=>False) [] [] W (.eptr (.row 1 [.str [60,62],.str [60,61],.str [62,61],.str [61],.str [60],.str [62],.str [38],.str [43],.str [45],.str [42],.str [47],.str [94],.str [37],.str [40],.str [41],.str [44],.str [59],.str [58],.str [123],.str [125]]) 0) (.pointer<|some ⟨3,0,none⟩):=
 Vk (t:=49) (l:=[[60,62],[60,61],[62,61],[61],[60],[62],[38],[43],[45],[42],[47],[94],[37],[40],[41],[44],[59],[58],[123],[125]]) Ar Ar Tryz.underlying49 lE Ar V
  (kT h (n:= "tabula/lex.signs")<|.tail _<|.tail _<|.tail _<|.tail _<|.tail _<|.tail _<|.head _)
theorem BW {W:World}(h:laidMet gH Rows.packCutRow.laid W):Rep (λ_=>False) [] [] W (.eptr (.row 1 [.str [35,78,85,76,76,33],.str [35,68,73,86,47,48,33],.str [35,86,65,76,85,69,33],.str [35,82,69,70,33],.str [35,78,65,77,69,63],.str [35,78,85,77,33],.str [35,78,47,65],.str [35,83,80,73,76,76,33],.str [35,67,73,82,67,33]]) 0) (.pointer<|some ⟨4,0,none⟩):=
 Vk (t:=49) (l:=[[35,78,85,76,76,33],[35,68,73,86,47,48,33],[35,86,65,76,85,69,33],[35,82,69,70,33],[35,78,65,77,69,63],[35,78,85,77,33],[35,78,47,65],[35,83,80,73,76,76,33],[35,67,73,82,67,33]]) Ar Ar Tryz.underlying49 lE Ar V
  (kT h (n:= "tabula/lex.faults")<|.tail _<|.tail _<|.tail _<|.tail _<|.tail _<|.tail _<|.tail _<|.head _)
theorem Xd {P:Program}{W:World}{name nm:String}{d:DataW Unit}{g t:Nat}{ms:Array (String×TypeId)}(hg:P.globalNamed name=some g)(hty:(P.globals[g]?).map (·.type)=some t)(hi:P.underlying t=some (.interface ms))
 (h:VarReads P W name<|.iface nm d):∃ev,W.cell? ⟨g,0,none⟩=some ev∧(ev= .nilIface∨∃te pe,ev= .iface te pe):=by
 obtain⟨g',t',cs,fuel,p,h1,h2,hv,hd⟩:=h;obtain rfl:=kW<|hg.symm.trans h1;obtain rfl:=kW<|hty.symm.trans h2;obtain⟨_,u,v,hcs,_,_⟩:=iface_of_trod hi hd;have hvar:=World.var?_cell hg hv 0;obtain⟨cl⟩:=cs;grind
theorem Yt {W:World}(h:W.ShapedOpen gH):∃m,W.cell? ⟨2,0,none⟩=some (.int .i64 m):=by
 obtain⟨cs,h1,h2,h3⟩:=h.1 2 #[.int .i64 0] 3 (of_decide_eq_true Ar) Ar;obtain⟨ts,h4,_,h5⟩:=h3 Ar;obtain⟨cl⟩:=cs
 match cl,h2 with| [c],_=>obtain⟨u,h6,h7⟩:=h5 0 c rfl;have e:gH.cellTypes gH.depth 3=some [3]:=Ar;obtain rfl:=kW<|e.symm.trans h4;obtain rfl:(3:Nat)=u:=kW h6;unfold Cell.ok at h7;grind[Tryz.underlying3,World.cell?]
theorem kn_laid {W:World}(h:laidMet gH Rows.packCutRow.laid W)(hs:W.ShapedOpen gH):Kn W:=by
 refine⟨λg e hg=>?_,⟨Yt hs,?_,?_,?_⟩⟩
 ·unfold GL at hg;simp only[lk]at hg;cases h2:Nat.beq g 3 with
  |true=>rw[h2,cond_true]at hg;cases hg;have:=nBq h2;subst this;exact EY h
  |false=>
   rw[h2,cond_false]at hg;cases h3:Nat.beq g 4 with
   |true=>rw[h3,cond_true]at hg;cases hg;have:=nBq h3;subst this;exact BW h
   |false=>rw[h3]at hg;cases hg
 ·have h1:(("unicode/utf8.first",Lib.firstData):String×DataW Unit)∈Rows.packCutRow.laid:=by rw[show(Lib.firstData:DataW Unit)=Rows.laid_unicode_utf8_first by kernel_rfl];exact .tail _ (.tail _<|.tail _<|.tail _<|.tail _<|.tail _<|.tail _<|.tail _<|.head _)
  have h2:(("unicode/utf8.acceptRanges",Lib.acceptData):String×DataW Unit)∈Rows.packCutRow.laid:=by rw[show(Lib.acceptData:DataW Unit)=Rows.laid_unicode_utf8_acceptRanges by kernel_rfl];exact .tail _<|.tail _<|.tail _<|.head _
  exact utf8Tabs_of_readsT (U8Types.of196 Tryz.laysValid) ⟨Ar,Ar,Ar,Ar,Ar,Ar,Ar⟩ (kT h h1)<|kT h h2
 ·exact Xd (t:=111) Ar Ar lH<|kT h (n:= "strconv.ErrSyntax")<|.tail _<|.tail _<|.tail _<|.tail _<|.tail _<|.head _
 ·exact Xd (t:=111) Ar Ar lH<|kT h (n:= "strconv.ErrRange")<|.tail _<|.tail _<|.tail _<|.tail _<|.head _
end Go.Abs
