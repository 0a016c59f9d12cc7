/- A part of the proof that tabula/tabulalaw25.PackBack returns true for every input, each argument reading as it did (its card: the last text). No conditions of its own. -/
import Derived.Test.YtlfcfgbbhlgocaaGreatDoorTI
import Derived.Shelf.Strings.Builder1
import Derived.WalkSpells
set_option linter.unusedVariables false
set_option linter.unusedSimpArgs false
set_option maxHeartbeats 4000000
open List renaming length->N
open Go.Abs.AVal renaming int->J,str->S,bool->I,ptr->aP,row->aR,tup->aU,agg->aG,hsl->aH,nilSl->aN,eptr->aE
open Go.Abs.HObj renaming cells->C
open Go.IntKind renaming i64->U,i8->z8
open Array renaming replicate->fE
open Go.Abs.A5 renaming pure->hO
open Go.Abs.AVal renaming one->fW
open Go.Abs.ExM renaming exit->iN,sub->jU,loopJ->jT,un->lO,ret->iL,lpH->lZ,unroll->mD,drawL->mH,seq->iO,ops->iM
open Go.Abs.Nh renaming step->lT
open Go.Abs.SP renaming mayB->jR
open Go.Calls renaming mono->eU
open Go.DataW renaming weights_mem_each->lG,trod->kV,weights->kU
open Go.Exit renaming thenS->mE
open Go.Lib renaming strCells->dY,compactUpTo->gI
open Go.Proofs.Tryz renaming prog->gH,underlying24->lQ,underlying22->lD
open Go.Value renaming pointer->lM
open List renaming take_succ_eq_append_getElem->lK,flatMap_cons->lA,take_length->lL,getElem?_cons_zero->eV,length_map->jY,getD_eq_getElem?_getD->eZ,append_assoc->cE,exists_cons_of_length_pos->lN,append_nil->lP,replicate->fH,getElem?_cons_succ->eT,take_zero->lU,length_take->lW,length_set->lX,range'->gB,take_append_drop->bX,length_mergeSort->mA,mem_cons->eS,not_mem_nil->eY,mem_append->eG,take->kY,map_cons->jZ
open Nat renaming zero_le->hZ,blt->bB,le_of_ble_eq_true->aO,le_refl->bC,beq->aA,le_add_right->lR,zero_lt_one->lY,le_trans->bI,add_mul->bE
open Option.some renaming inj->kW
open UInt8 renaming ofNat->iI
namespace Go.Abs
open Go.Proofs Go.RowKit Go.Lib Go.ChangeShapes Go.WideShapes Go.ChangeAt
set_option maxRecDepth 100000
theorem LV :laidOutB gH=true:=by kernel_rfl
theorem QJ {P:Program}{w:World}{b:Nat}{t e:TypeId}{a:Addr}{len cap:Nat}(ht:P.underlying t=some (.slice e))(h:Cell.okWide P w .any b t<|.slice (some a) len cap):a.spot=none:=by unfold Cell.okWide at h;rw[ht]at h;simp only[Cell.ok,ht]at h;exact h.2.2.2.1
theorem kc22 :gH.cellsOf 22=1:=by kernel_rfl
theorem KW {H:Type}{enc:TypeId×Value→H}{W:World}{base:Nat}{v:Value}{d:DataW H}{p:List MemPlace}(o0:Value.okWide gH W .any base 24 v)(h0:DataW.Trod enc gH W 0 (λ_=>true) true 24 v d p)(hwt:∀k,k∈d.weights gH 24→k≤reachBytes):∃b:RB,OO b∧Rep (λ_=>False) [] [] W (.agg<|rbL b) v:=by
 unfold Value.okWide at o0;rw[lQ]at o0;obtain⟨cs0,rfl,z0,ts0,k0,_,w0⟩:=o0;obtain rfl:=kW<|(show gH.cellTypes gH.depth 24=some [3,22,4,4,22]by kernel_rfl).symm.trans k0;obtain⟨cs0⟩:=cs0;obtain⟨b0,b1,b2,b3,b4,rfl⟩:=list5 (l:=cs0) (by rw[show gH.cellsOf 24=5 by kernel_rfl]at z0;exact z0);have s1:∀a len cap,b1= .slice (some a) len cap→a.spot=none:=λa len cap e=>by obtain⟨u,hu,hc⟩:=w0 1 b1 rfl;obtain rfl:(22:Nat)=u:=kW hu;subst e;exact QJ lD hc
 have s4:∀a len cap,b4= .slice (some a) len cap→a.spot=none:=λa len cap e=>by obtain⟨u,hu,hc⟩:=w0 4 b4 rfl;obtain rfl:(22:Nat)=u:=kW hu;subst e;exact QJ lD hc
 obtain⟨n0,hn0⟩:=h0;have hn0':kV enc gH W 0 (λ_=>true) true n0 24 [b0,b1,b2,b3,b4]=some (d,p):=hn0;obtain⟨xs,m,rfl,hx,_,hxl,hf⟩:=DataW.trod_struct lQ hn0';obtain⟨x0,x1,x2,x3,x4,rfl⟩:=list5 hxl;obtain⟨sh,rfl,ish⟩:=gfI (x:=x0) (a:=b0) (r:=[b1,b2,b3,b4])<|hf 0 _ rfl;have f1:kV enc gH W 0 (λ_=>true) true m 22 (kY (gH.cellsOf 22) [b1,b2,b3,b4])=some x1:=hf 1 _ rfl;obtain⟨nm,rfl⟩:=gfB (x:=x2) (a:=b2) (r:=[b3,b4])<|hf 2 _ rfl;obtain⟨tb,rfl⟩:=gfB (x:=x3) (a:=b3) (r:=[b4])<|hf 3 _ rfl;have f4:kV enc gH W 0 (λ_=>true) true m 22 (kY (gH.cellsOf 22) [b4])=some x4:=hf 4 _ rfl;rw[kc22]at f1 f4;have hd0:d= .agg [x0.1,x1.1,x2.1,x3.1,x4.1]:=congrArg Prod.fst hx
 have hw1:∀k∈x1.1.weights gH 22,k≤reachBytes:=λk hkk=>hwt k (by
  rw[hd0];unfold kU;rw[lQ]
  exact lG (j:=1) rfl rfl _ hkk)
 have hw4:∀k∈x4.1.weights gH 22,k≤reachBytes:=λk hkk=>hwt k (by
  rw[hd0];unfold kU;rw[lQ]
  exact lG (j:=4) rfl rfl _ hkk)
 obtain⟨l1,g1,e1,t1⟩:=Zb f1 hw1 s1;obtain⟨l4,g4,e4,t4⟩:=Zb f4 hw4 s4;exact⟨⟨sh,l1,nm,tb,l4⟩,⟨ish,g1,g4,e1,e4⟩,_,rfl,_,_,rfl,rfl,_,_,rfl,t1,_,_,rfl,rfl,_,_,rfl,rfl,_,_,rfl,t4,rfl⟩
end Go.Abs
namespace Go.Abs
def Qd (s:Bz):Nat:=s.foldl (λh b=>(h*257+b.toNat+1)%4294967291) 1
end Go.Abs
set_option linter.unusedVariables false
namespace Go.Abs
open Go.RowKit Go.Proofs Go.Shelf
theorem HN {P:Program}{fits:TypeId→Bool}{d:Nat}{e:TypeId}{count n:Nat}(hc:1≤count)(h:rowAt P fits d e 1 0 n=true):rowAt P fits d e count 0 n=true:=by
 cases d with
 |zero=>simp[rowAt]at h
 |succ d=>
  unfold rowAt at h⊢;simp only at h⊢;split at h;·cases h
  ·grind
theorem Uw {P:Program}:∀{d:Nat}{e u:TypeId}{count n:Nat},1≤count→liesAt P d e 1 0 u n=true→liesAt P d e count 0 u n=true
 |0,_,_,_,_,_,h=>by simp[liesAt]at h
 |d+1,e,u,count,n,hc,h=>by
  unfold liesAt at h⊢;simp only[Bool.or_eq_true]at h⊢;rcases h with h|h;·grind[HN]
  ·refine .inr ?_;split at h;·exact Uw hc h
   ·cases h
section
variable {P : Program} {ρ : Ren}
set_option maxHeartbeats 1000000 in
set_option maxRecDepth 100000 in
theorem strIn (L:Lays.n169 P ρ)(X:Builder.Extra P ρ)(b g cap:Nat)(cur:Array Value)(fr:Nat×Nat)(l:Bz)(w:World)(h0:l≠[])(hb:w.cell? ⟨b,1,none⟩=some (.slice (some ⟨g,0,none⟩) (N l) cap))
 (hg:w.heap[g]?=some (.cells cur (ρ.t 5) fr)) (hnc:N l≤cap) (hcm:cap≤maxLen) (hcs:N l≤cur.size) (hx:∀j x,l[j]?=some x→w.cell? ⟨g,0+j,none⟩=some (.int .u8 x.toNat)):
 Calls P (ρ.f 169) #[.pointer<|some ⟨b,0,none⟩] w λe w'=>e= .returned (.string ⟨l.toArray⟩)∧w'=w.drew.freeze ⟨g,0,none⟩ (N l):=by
 have hl0:N l≠0:=by grind
 have c1:w.drew.cell? ⟨b,1,none⟩=some (.slice (some ⟨g,0,none⟩) (N l) cap):=hb;have hSD:(Builtin.unsafeSliceData_ #[(ρ.t 37)] (ρ.t 127) #[.slice (some ⟨g,0,none⟩) (N l) cap]).run P w.drew= .ok (.pointer<|some ⟨g,0,none⟩) w.drew:=Lib.run_unsafeSliceData_row _ _ _ _ _ _ Y;have hUS:(Builtin.unsafeString_ #[(ρ.t 127),(ρ.t 3)] (ρ.t 9) #[.pointer<|some ⟨g,0,none⟩,.int .i64<|N l]).run P w.drew= .ok (.string ⟨l.toArray⟩) (w.drew.freeze ⟨g,0,none⟩<|N l):=by refine Lib.run_unsafeString_row w.drew (ρ.t 127) (ρ.t 3) (ρ.t 9) (ρ.t 5) L.t127 X.cellsByte g cur.size (by have hg':w.drew.heap[g]?=some (.cells cur (ρ.t 5) fr):=hg;simp[World.shape?,hg']) l h0 hcs (by grind[maxLen]) ?_;simp_all[Addr.add_at]
 have mixed:=L.mixed;have t72:=L.t72;have a72:=L.a72;have z72:=L.z72;have v72:=L.v72;have u72:=run_underlying L.t72;have t70:=L.t70;have a70:=L.a70;have z70:=L.z70;have v70:=L.v70;have u70:=run_underlying L.t70;have t37:=L.t37;have a37:=L.a37;have z37:=L.z37;have v37:=L.v37;have u37:=run_underlying L.t37;have t127:=L.t127;have a127:=L.a127;have z127:=L.z127;have v127:=L.v127;have u127:=run_underlying L.t127;have t3:=L.t3;have a3:=L.a3;have z3:=L.z3;have v3:=L.v3;have u3:=run_underlying L.t3;have t9:=L.t9;have a9:=L.a9;have z9:=L.z9;have v9:=L.v9;have u9:=run_underlying L.t9;have t5:=X.t5;have a5:=X.a5;have z5:=X.z5;have v5:=X.v5;have u5:=run_underlying X.t5
 go_enter L.f169,Body.n169_ntmps ρ
 go_wp2
 go_region_o
 all_goals(go_wp2;go_ret;exact⟨rfl,rfl⟩)
end
section
variable {P : Program} {ρ : Ren} {W0 : World} {H : Hz}
def tgT (T:TypeId):TypeId:=cond (bB T 1000000) (T+1000000) T
theorem JR {n K:Nat}:bB (n+K) K=false:=BK<|Nat.not_lt.2<|Nat.le_add_left K n
theorem tag_aux (T K:Nat):cond (bB (cond (bB T K) (T+K) T) K) (cond (bB T K) (T+K) T) ((cond (bB T K) (T+K) T)-K)=cond (bB T K) T (T-K):=by cases h:bB T K with|true=>simp only[cond_true,JR,cond_false,Nat.add_sub_cancel]|false=>simp only[cond_false,h]
theorem OZ (T K:Nat):bB (cond (bB T K) (T+K) T) K=false:=by cases h:bB T K with|true=>simp only[cond_true,JR]|false=>simp only[cond_false,h]
theorem PR (T:TypeId):DJ (tgT T)=DJ T:=tag_aux T 1000000
theorem tgT_not (T:TypeId):bB (tgT T) 1000000=false:=OZ T 1000000
theorem FQ (w:World)(g n:Nat)(cur:Array Value)(T:TypeId)(fr:Nat×Nat)(hn:n≠0)(hg:w.heap[g]?=some (.cells cur T fr)):∃fr',(w.freeze ⟨g,0,none⟩ n).heap[g]?=some (.cells cur T fr')∧∀k,k≠g→(w.freeze ⟨g,0,none⟩ n).heap[k]?=w.heap[k]?:=by simp_all[World.freeze,Array.getElem?_modify,Ne.symm]
theorem strP (L:Lays.n169 P ρ)(X:Builder.Extra P ρ)(hb:E1 P<|ρ.f 169){id jd:Nat}{T TB:TypeId}{c0:AVal}{r:List AVal}{l:Bz}{n:Nat}{cp:Option Nat}(ho:H[id]?=some (.cells T (c0:: .hsl 1 jd 0 n cp::r) false))(hj:H[jd]?=some (.cells TB (u8c l) true))(hn:n=N l)(h0:l≠[])(hTB:DJ TB=ρ.t 5):
 A5 P W0 (ρ.f 169) [.ptr id 0] H (.str l) (H.set jd<|.cells (tgT TB) (u8c l) true):=by
 subst hn;refine⟨hb,λF bs w cargs hh hr=>?_⟩;simp only[Ab,Rep]at hr;obtain⟨_,_,rfl,⟨_,hp⟩,rfl⟩:=hr;unfold Fe at hp;rw[ho]at hp;obtain⟨b,hbi,rfl⟩:=hp;obtain⟨vs,rest,fr,h1,h2,h3⟩:=hh.obj id _ b ho hbi;simp only[Ab]at h2;obtain⟨u0,us,rfl,_,u1,us',rfl,hu1,_⟩:=h2;simp only[Rep]at hu1;obtain⟨_,hu1⟩:=hu1;unfold D1 at hu1;rw[hj]at hu1;have hul:N (u8c l)=N l:=Ze;obtain⟨_,hu1⟩:=hu1;obtain⟨g,cap,hbj,rfl,hnc,_,hop⟩:=hu1<|λ_=>⟨rfl,Y⟩;obtain⟨hcm,_⟩:=hop rfl;obtain⟨vb,rb,fb,g1,g2,g3⟩:=hh.obj jd _ g hj hbj;have hlow:=hh.low g<|mGe hbj;have hvb:vb=dY ⟨l.toArray⟩:=by
  have key:∀(l:Bz) (vb:List Value),Ab F bs H w (u8c l) vb→vb=dY ⟨l.toArray⟩:=by intro l;induction l<;>grind[u8c,Ab,dY,Rep]
  grind
 have hsl:N (dY ⟨l.toArray⟩)=N l:=by rw[Lib.strCells_length];simp[ByteArray.size]
 have hc1:w.cell? ⟨b,1,none⟩=some (.slice (some ⟨g,0,none⟩) (N l) cap):=by rw[cell_of_row w b 1 _ T fr h1];simp
 rw[hTB]at g1;refine eU (strIn L X b g cap _ fb l w h0 hc1 g1 hnc hcm (by grind)<|λj x hx=>?_) ?_;·rw[cell_of_row w g _ _ _ fb g1,hvb]<;>grind[dY]
 ·rintro e w' ⟨rfl,rfl⟩;obtain⟨hdr,hde⟩:=hh.drew;have hl0:N l≠0:=by grind
  have g1':w.drew.heap[g]?=some (.cells (vb++rb).toArray (ρ.t 5) fb):=g1;obtain⟨fr',f1,f2⟩:=FQ w.drew g (N l) _ _ fb hl0 g1';have hbz:Dj (w.drew.freeze ⟨g,0,none⟩<|N l) g=Dj w.drew g:=by grind[Dj]
  have hsz:(w.drew.freeze ⟨g,0,none⟩<|N l).heap.size=w.drew.heap.size:=by simp_all[World.freeze]
  have hoe:Bi bs bs w.drew (w.drew.freeze ⟨g,0,none⟩<|N l) jd (.cells TB (u8c l) true) (.cells (tgT TB) (u8c l) true):=.inr ⟨_,_,rfl,.inr ⟨rfl,rfl,λb' hb'=>by grind⟩⟩;have hext:=Ext.upd (w':=w.drew.freeze ⟨g,0,none⟩<|N l) hdr.nodup hj hbj hsz f2 hoe;refine⟨.string ⟨l.toArray⟩,bs,Z,Zx,Ae.upd hdr hj hbj (Lib.below_freeze (Below.refl _ _) (p:=⟨g,0,none⟩) hlow.1 _) hsz f2 hoe ⟨vb,rb,fr',by grind[PR],?_,λh=>by grind[tgT_not]⟩,hde.trans hext⟩;grind[Ab.ext]
end
end Go.Abs
namespace Go.Abs
open Go.RowKit Go.Proofs Go.Shelf
theorem tz70 :gH.underlying 104=some (.pointer 107):=Ar
theorem tz164 :gH.underlying 197=some .unsafePointer:=Ar
theorem tz72' :(gH.info? 107).map (·.size)=some 2:=Ar
theorem tz72 :∃j,gH.info? 107=some j∧j.size=2:=Option.map_eq_some_iff.1 tz72'
set_option maxHeartbeats 1000000 in
set_option maxRecDepth 100000 in
theorem OS (b:Nat)(w:World){T:TypeId}{n:Nat}(h0:w.cell? ⟨b,0,none⟩=some (.pointer none))(hsh:w.shape? b=some (T,n))(hn:0<n)
 (hl:liesAt Tryz.prog Tryz.prog.depth T (n/Tryz.prog.cellsOf T) 0 107 1=true) (hfz:w.frozen? ⟨b,0,none⟩=false):
 Calls Tryz.prog 87 #[.pointer<|some ⟨b,0,none⟩] w λe w'=>e= .returned (.tuple #[])∧w'=w.setCell ⟨b,0,none⟩ (.pointer<|some ⟨b,0,none⟩):=by
 obtain⟨j,hj,hjs⟩:=tz72
 go_enter Tryz.func87,Tryz.ntmps87
 go_wp2
 rw[Lib.run_to_unsafe w ⟨b,0,none⟩ tz70 tz164 hj Y hsh hn];simp only[Result.andThen];rw[Oper.upon_value]
 go_wp2
 rw[run_callFunc_extern Tryz.func139 Ar Ar Ar (e:=Extern.AbiNoEscape.same) Ar];rw[Lib.run_noEscape];simp only[Result.andThen];rw[Oper.upon_value]
 go_wp2
 rw[Lib.run_from_unsafe w ⟨b,0,none⟩ tz164 tz70 hj hsh hl];simp only[Result.andThen];rw[Oper.upon_value]
 go_wp2
 go_end0
 grind
theorem ccPT {W0:World}{H:Hz}{id:Nat}{T:TypeId}{r:List AVal}(ho:H[id]?=some (.cells T (.nilPtr::r) false))(hT:gH.cellsOf T=N r+1)(hl:liesAt gH gH.depth T 1 0 107 1=true):
 cP W0 87 [.ptr id 0] H (.tup []) (H.set id<|.cells T (.ptr id 0::r) false):=by
 refine⟨F2 Ar,λF bs w cargs hh hr=>?_⟩;simp only[Ab,Rep]at hr;obtain⟨_,_,rfl,⟨_,hp⟩,rfl⟩:=hr;unfold Fe at hp;rw[ho]at hp;obtain⟨b,hbi,rfl⟩:=hp;obtain⟨vs,rest,fr,h1,h2,h3⟩:=hh.obj id _ b ho hbi;simp only[Ab,Rep]at h2;obtain⟨_,us,rfl,rfl,hus⟩:=h2;have hlow:=hh.low b<|mGe hbi;have hul:=hus.length;have hc0:w.cell? ⟨b,0,none⟩=some (.pointer none):=by rw[cell_of_row w b 0 _ T fr h1];simp
 have hsh:w.shape? b=some (T,N (lM none::us++rest)):=by grind[World.shape?]
 have hfz:w.frozen? ⟨b,0,none⟩=false:=by simp_all[World.frozen?]
 have hcnt:1≤N (lM none::us++rest)/gH.cellsOf T:=by simp_all[Nat.le_div_iff_mul_le]
 refine eU (OS b w hc0 hsh B4 (Uw hcnt hl) hfz) ?_;rintro e w' ⟨rfl,rfl⟩;rw[setCell_eq_setRow w b 0 _ T fr _ h1];have hrow:((lM none::us++rest).toArray.setIfInBounds 0<|.pointer<|some ⟨b,0,none⟩)=((lM (some ⟨b,0,none⟩)::us)++rest).toArray:=by grind
 rw[hrow];have hnew:=setRow_heap w b _ ((lM (some ⟨b,0,none⟩)::us)++rest).toArray T fr h1;have hoe:Bi bs bs w (w.setRow b ((lM (some ⟨b,0,none⟩)::us)++rest).toArray) id (.cells T (.nilPtr::r) false) (.cells T (.ptr id 0::r) false):=.inr ⟨T,_,Z,Z,Z⟩;have hext:=Ext.upd (w':=w.setRow b ((lM (some ⟨b,0,none⟩)::us)++rest).toArray) hh.nodup ho hbi B4 (λk hk=>setRow_other w b k _ hk) hoe;refine⟨.tuple #[],bs,Z,by grind[Rep,Ab],Ae.upd hh ho hbi (Gq w _ hlow.1) B4 (λk hk=>setRow_other w b k _ hk) hoe ⟨_,rest,fr,hnew,?_,λj hj=>h3 j Y⟩,hext⟩;grind[Ab,Ab.ext,Rep,Fe]
set_option maxHeartbeats 1000000 in
set_option maxRecDepth 100000 in
theorem ccUsedT (b:Nat)(w:World)(h0:w.cell? ⟨b,0,none⟩=some (.pointer<|some ⟨b,0,none⟩)):
 Calls Tryz.prog 87 #[.pointer<|some ⟨b,0,none⟩] w λe w'=>e= .returned (.tuple #[])∧w'=w:=by
 obtain⟨j,hj,hjs⟩:=tz72
 go_enter Tryz.func87,Tryz.ntmps87
 go_wp2
 rw[Lib.run_neq_ptr_same w _ tz70 hj]
 go_wp2
 go_end0
 grind
theorem PZ {W0:World}{H:Hz}{id:Nat}{T:TypeId}{r:List AVal}(ho:H[id]?=some (.cells T (.ptr id 0::r) false)):
 cP W0 87 [.ptr id 0] H (.tup []) H:=by
 refine⟨F2 Ar,λF bs w cargs hh hr=>?_⟩;simp only[Ab,Rep]at hr;obtain⟨_,_,rfl,⟨_,hp⟩,rfl⟩:=hr;unfold Fe at hp;rw[ho]at hp;obtain⟨b,hbi,rfl⟩:=hp;obtain⟨vs,rest,fr,h1,h2,h3⟩:=hh.obj id _ b ho hbi;simp only[Ab,Rep]at h2;obtain⟨u,us,rfl,⟨_,hu⟩,hus⟩:=h2;unfold Fe at hu;rw[ho]at hu;obtain⟨b',hb',rfl⟩:=hu;rw[hbi]at hb';injection hb' with hb';subst hb';have hc0:w.cell? ⟨b,0,none⟩=some (.pointer<|some ⟨b,0,none⟩):=by rw[cell_of_row w b 0 _ T fr h1];simp
 refine eU (ccUsedT b w hc0) ?_;rintro e w' ⟨rfl,rfl⟩;grind[Rep,Ab,Ext.refl]
end Go.Abs
namespace Go.Abs
open Go.Proofs Go.RowKit
set_option maxRecDepth 100000
variable {W0 : World} {G : List (Nat × AVal)}
def us (H:Hz)(id jd:Nat)(at_:AVal)(l:Bz):Hz:=(H.set jd<|C 5 (u8c l) true).set id<|C 109 [aP id 0,aH 1 jd 0 (N l) none,at_] false
theorem J7 {H:Hz}{id jd:Nat}{at_:AVal}{l:Bz}:N (us H id jd at_ l)=N H:=by simp[us]
theorem Wa {H X:Hz}{id jd:Nat}{at_:AVal}{l:Bz}:(us H id jd at_ l++X).take (N H)=us H id jd at_ l:=by grind[J7]
theorem JN {H:Hz}{n i:Nat}{T:TypeId}{cs:List AVal}{op:Bool}(hb:B7 n H=true)(h:H[i]?=some (C T cs op)):A8 n cs=true:=P9 hb h
theorem Ue {H:Hz}{id jd n:Nat}{at_:AVal}{l':Bz}{T:TypeId}{c0 c1:AVal}(hb:B7 n H=true)(ho:H[id]?=some (C T [c0,c1,at_] false))(hi:id<n)(hj:jd<n):B7 n (us H id jd at_ l')=true:=by
 have h0:=JN hb ho;have h1:blw n at_=true:=by grind[A8]
 have h2:bB id n=true:=by simp_all
 have h3:bB jd n=true:=by simp_all
 refine Xv (Xv hb<|blwH_u8 _) ?_;simp_all[B7,A8,blw]
theorem wbU (hg:hGr W0 G){H:Hz}{id jd:Nat}{at_:AVal}{l:Bz}{b:UInt8}(hb:B7 (N H) H=true)(ho:H[id]?=some (C 109 [aP id 0,aH 1 jd 0 (N l) none,at_] false))(hj:H[jd]?=some (C 5 (u8c l) true))(hl:N l≤1000000):cP W0 89 [aP id 0,J .u8 (b.toNat:Nat)] H .nilIf (us H id jd at_<|l++[b]):=by
 have hjl:=gLt hj;have hij:jd≠id:=λe=>by grind
 have ho2:(H.set jd (C 5 (u8c<|l++[b]) true)++[C 5 [J .u8 (b.toNat:Nat)] false])[id]?=some (C 109 [aP id 0,aH 1 jd 0 (N l) none,at_] false):=gA<|gSt hij ho;refine goM 89 17 ?_;refine sO<|x1 Z<|sO<|mV Z<|mC Z (PZ ho)<|mn<|sO<|m2 Z Z<|mV (v:=aP id 0) (Im Z ho)<|mV (v:=aP id 1) (Gv Z ho)<|mV (v:=aH 1 jd 0 (N l) none) (O9 Z ho Z)<|mV Z<|mV (v:=aH 1 (N H) 0 1<|some 1) Z<|Ac hg gN (v:=aH 1 jd 0 (N<|l++[b]) none) (oAppB Z Z (gA hj) gL<|AQ hjl) Z PJ<|mV (v:=aP id 0) (Im Z ho2)<|mV (v:=aP id 1) (Gv Z ho2)<|Ai hg gN (J9 Z Z ho2 Z<|AQ (by grind))<|mn<|sO<|x1 Z ?_;refine iL ?_;refine A4 (n:=N H) O Z ?_ 100 Z ?_;·show B7 (N H) (kY (N H)<|us H id jd at_ (l++[b])++[_])=true;grind[Wa,Ue]
 ·exact Wa
theorem QX {H:Hz}{id jd:Nat}{a:AVal}{l k:Bz}(h:id≠jd):us (us H id jd a l) id jd a k=us H id jd a k:=by simp_all[us,List.set_comm]
theorem BI {H:Hz}{id jd:Nat}{a:AVal}{l:Bz}(ho:H[id]?=some (C 109 [aP id 0,aH 1 jd 0 (N l) none,a] false))(hj:H[jd]?=some (C 5 (u8c l) true)):us H id jd a l=H:=by grind[us,Tj]
theorem Ox {H:Hz}{id jd:Nat}{a:AVal}{l:Bz}(h:id<N H):(us H id jd a l)[id]?=some (C 109 [aP id 0,aH 1 jd 0 (N l) none,a] false):=by grind[us]
theorem QS {H:Hz}{id jd:Nat}{a:AVal}{l:Bz}(h:jd<N H)(hne:id≠jd):(us H id jd a l)[jd]?=some (C 5 (u8c l) true):=by grind[us]
theorem LR {H:Hz}{id jd i:Nat}{a:AVal}{l:Bz}{o:HObj}(h1:id≠i)(h2:jd≠i)(h:H[i]?=some o):(us H id jd a l)[i]?=some o:=by grind[us]
theorem SC {H X:Hz}{id jd:Nat}{a:AVal}{l:Bz}(h1:id<N H)(h2:jd<N H):us (H++X) id jd a l=us H id jd a l++X:=by grind[us]
theorem LC :liesAt gH gH.depth 109 1 0 107 1=true:=Ar
theorem FC :gH.cellsOf 109=3:=Ar
def fw (H:Hz)(id:Nat)(at_:AVal)(b:UInt8):Hz:=H.set id (C 109 [aP id 0,aH 1 (N H+1) 0 1 none,at_] false)++[C 5 [J .u8 (b.toNat:Nat)] false,C 5 (u8c [b]) true]
theorem wsU (hg:hGr W0 G){H:Hz}{id jd:Nat}{at_:AVal}{l:Bz}{k:Bz}(hk0:k≠[])(ho:H[id]?=some (C 109 [aP id 0,aH 1 jd 0 (N l) none,at_] false))(hj:H[jd]?=some (C 5 (u8c l) true))(hl:N l+N k≤1000000):cP W0 47 [aP id 0,S k] H (aU [J U<|N k,.nilIf]) (us H id jd at_<|l++k):=by
 have hij:jd≠id:=λe=>by grind
 have ho2:(H.set jd<|C 5 (u8c<|l++k) true)[id]?=some (C 109 [aP id 0,aH 1 jd 0 (N l) none,at_] false):=gSt hij ho;refine goM 47 19 ?_;refine sO<|x2 Z Z<|sO<|mV Z<|mC Z (PZ ho)<|mn<|sO<|m2 Z Z<|mV (v:=aP id 0) (Im Z ho)<|mV (v:=aP id 1) (Gv Z ho)<|mV (v:=aH 1 jd 0 (N l) none) (O9 Z ho Z)<|mV Z<|Ac hg gN (v:=aH 1 jd 0 (N<|l++k) none) (oAppS Z Z hk0 hj Z) Z PJ<|mV (v:=aP id 0) (Im Z ho2)<|mV (v:=aP id 1) (Gv Z ho2)<|Ai hg gN (J9 Z Z ho2 Z Z)<|mn<|sO<|x4 Z Z Z Z ?_;exact iL<|pS
theorem wsF (hg:hGr W0 G){H:Hz}{id:Nat}{at_:AVal}{k:Bz}(hk0:k≠[])(ho:H[id]?=some (C 109 [.nilPtr,aN,at_] false))(hl:N k≤1000000):cP W0 47 [aP id 0,S k] H (aU [J U<|N k,.nilIf]) (H.set id (C 109 [aP id 0,aH 1 (N H) 0 (N k) none,at_] false)++[C 5 (u8c k) true]):=by
 have hid:=gLt ho;have ho1:(H.set id<|C 109 [aP id 0,aN,at_] false)[id]?=some (C 109 [aP id 0,aN,at_] false):=gT hid;have hlen:N (H.set id<|C 109 [aP id 0,aN,at_] false)=N H:=lX;have ho2:(H.set id (C 109 [aP id 0,aN,at_] false)++[C 5 (u8c k) true])[id]?=some (C 109 [aP id 0,aN,at_] false):=gA ho1;have hH:(H.set id (C 109 [aP id 0,aN,at_] false)++[C 5 (u8c k) true]).set id (C 109 [aP id 0,aH 1 (N H) 0 (N k) none,at_] false)=H.set id (C 109 [aP id 0,aH 1 (N H) 0 (N k) none,at_] false)++[C 5 (u8c k) true]:=by simp_all
 refine goM 47 19 ?_;refine sO<|x2 Z Z<|sO<|mV Z<|mC Z (ccPT ho FC LC)<|mn<|sO<|m2 Z Z<|mV (v:=aP id 0) (Im Z ho1)<|mV (v:=aP id 1) (Gv Z ho1)<|mV (v:=aN) (O9 Z ho1 Z)<|mV Z<|Ac hg gN (v:=aH 1 (N H) 0 (N k) none) (by rw[←hlen];exact oAppS0 rfl rfl hk0) Z PJ<|mV (v:=aP id 0) (Im Z ho2)<|mV (v:=aP id 1) (Gv Z ho2)<|Ai hg gN (J9 Z Z ho2 Z Z)<|mn<|sO<|x4 Z Z Z Z ?_;exact iL<|A6 O Z Z hH
theorem wbF (hg:hGr W0 G){H:Hz}{id:Nat}{at_:AVal}{b:UInt8}(ho:H[id]?=some (C 109 [.nilPtr,aN,at_] false)):cP W0 89 [aP id 0,J .u8 (b.toNat:Nat)] H .nilIf (fw H id at_ b):=by
 have hid:=gLt ho;have ho1:(H.set id<|C 109 [aP id 0,aN,at_] false)[id]?=some (C 109 [aP id 0,aN,at_] false):=gT hid;have hlen:N (H.set id<|C 109 [aP id 0,aN,at_] false)=N H:=lX;have hlen2:N (H.set id (C 109 [aP id 0,aN,at_] false)++[C 5 [J .u8 (b.toNat:Nat)] false])=N H+1:=by grind
 have hv:(H.set id (C 109 [aP id 0,aN,at_] false)++[C 5 [J .u8 (b.toNat:Nat)] false])[N H]?=some (C 5 [J .u8 (b.toNat:Nat)] false):=by grind
 have ho2:((H.set id (C 109 [aP id 0,aN,at_] false)++[C 5 [J .u8 (b.toNat:Nat)] false])++[C 5 (u8c [b]) true])[id]?=some (C 109 [aP id 0,aN,at_] false):=gA<|gA ho1;have hH:((H.set id (C 109 [aP id 0,aN,at_] false)++[C 5 [J .u8 (b.toNat:Nat)] false])++[C 5 (u8c [b]) true]).set id (C 109 [aP id 0,aH 1 (N H+1) 0 1 none,at_] false)=fw H id at_ b:=by rw[cE,AQ Y,List.set_set];rfl
 refine goM 89 17 ?_;refine sO<|x1 Z<|sO<|mV Z<|mC Z (ccPT ho FC LC)<|mn<|sO<|m2 Z Z<|mV (v:=aP id 0) (Im Z ho1)<|mV (v:=aP id 1) (Gv Z ho1)<|mV (v:=aN) (O9 Z ho1 Z)<|mV Z<|mK (v:=aH 1 (N H) 0 1<|some 1) Z (congrArg (λn=>aH 1 n 0 1<|some 1) hlen)<|Ac hg gN (v:=aH 1 (N H+1) 0 1 none) (by rw[←hlen2];exact oAppB0 rfl rfl hv) Z (by simp_all[Ah,C0])<|mV (v:=aP id 0) (Im Z ho2)<|mV (v:=aP id 1) (Gv Z ho2)<|Ai hg gN (J9 Z Z ho2 Z Z)<|mn<|sO<|x1 Z ?_;exact iL<|A6 O Z Z hH
theorem lenU (hg:hGr W0 G){H:Hz}{id jd:Nat}{at_:AVal}{l:Bz}(ho:H[id]?=some (C 109 [aP id 0,aH 1 jd 0 (N l) none,at_] false)):cP W0 55 [aP id 0] H (J U (N l:Nat)) H:=by refine goM 55 8 ?_;refine sO<|x1 Z<|sO<|mV Z<|mV (v:=aP id 0) (Im Z ho)<|mV (v:=aP id 1) (Gv Z ho)<|mV (v:=aH 1 jd 0 (N l) none) (O9 Z ho Z)<|x2 Z Z ?_;exact iL<|pS
theorem GT {w:Nat}{ns:List Nat}{i:Nat}(h:i<N ns):Dz w (ns.take<|i+1)=Dz w (ns.take i)++Ad w (ns.getD i 0):=by grind[lK,Dz]
theorem Z2 (w:Nat)(ns:List Nat){i:Nat}(h:i≤N ns):N (Dz w<|ns.take i)=i*w:=by rw[Ie,lW,Nat.min_eq_left h]
theorem putU (hg:hGr W0 G){H:Hz}{id jd sd w:Nat}{at_:AVal}{l:Bz}{ns:List Nat}{cp:Option Nat}(hb:B7 (N H) H=true)(ho:H[id]?=some (C 109 [aP id 0,aH 1 jd 0 (N l) none,at_] false))(hj:H[jd]?=some (C 5 (u8c l) true))(hs:H[sd]?=some (C 3 (Bm ns) false))(hw:w≤8)(hnl:N ns≤1000000)(hl:N l+N ns*w≤1000000)(hn:∀i,ns.getD i 0<9223372036854775808):cP W0 54 [aP id 0,J U w,aH 1 sd 0 (N ns) cp] H (aU []) (us H id jd at_<|l++Dz w ns):=by
 have hid:=gLt ho;have hjd:=gLt hj;have hne:id≠jd:=λe=>by grind
 have hsi:id≠sd:=λe=>by grind
 have hsj:jd≠sd:=λe=>by grind
 have hsU:∀{k:Bz},(us H id jd at_ k)[sd]?=some (C 3 (Bm ns) false):=λ{k}=>LR hsi hsj hs;have hbU:∀k,B7 (N<|us H id jd at_ k) (us H id jd at_ k)=true:=λk=>by grind[J7,Ue]
 refine goM 54 31 ?_;refine sO<|x3 Z Z Z<|bM ?_;refine jT (σ:=Nat) (τ:=Unit) (λi=>⟨.al [(0,aP id 0),(1,J U w),(9,aH 1 sd 0 (N ns) cp),(10,J U<|N ns),(11,J U i)],us H id jd at_<|l++Dz w (ns.take i),31⟩) (λi=>i≤N ns) (λi=>N ns-i) 0 0 (λ_=>⟨.al [],us H id jd at_<|l++Dz w ns,31⟩) (λ_=>True) (Ap Z (by rw[lU];show us H id jd at_ (l++[])=H;grind[BI])<|sb4 Z Z Z Z<|(((sbC Z<|sbN)))) (hZ _) ?_ ?_
 ·rintro i hi;have hi:i≤N ns:=hi;refine sO ?_;by_cases hlt:i<N ns
  ·have hmul:(i+1)*w≤N ns*w:=Nat.mul_le_mul_right _ hlt;rw[bE,Nat.one_mul]at hmul;refine mT Z<|mn<|sq<|cT Z<|kM<|sq<|bM<|sO<|mS (v:=aP sd i) (MS Z Z hsU)<|mV (v:=J U<|ns.getD i 0) (IK Z hsU hlt)<|x1 Z<|sO<|mV Z<|mK (v:=J U<|((w:Nat):Int)-1) Z (Bw Y Y Z)<|x1 Z<|bM ?_;refine jT (σ:=Nat×Bz) (τ:=Unit) (λ⟨r,a⟩=>⟨.al [(0,aP id 0),(1,J U w),(7,J U<|ns.getD i 0),(9,aH 1 sd 0 (N ns) cp),(10,J U<|N ns),(11,J U i),(8,J U<|((r:Nat):Int)-1)],us H id jd at_<|l++Dz w (ns.take i)++a,31⟩) (λ⟨r,a⟩=>r≤w∧a++Ad r (ns.getD i 0)=Ad w (ns.getD i 0)) (λ⟨r,a⟩=>r) ⟨w,[]⟩ 2 (λ_=>⟨.al [(0,aP id 0),(1,J U w),(7,J U<|ns.getD i 0),(9,aH 1 sd 0 (N ns) cp),(10,J U<|N ns),(11,J U i)],us H id jd at_<|l++Dz w (ns.take i)++Ad w (ns.getD i 0),31⟩) (λ_=>True) (Ap Z (by grind)<|sb4 Z Z Z Z<|(((sbC Z<|sbC Z<|sbC Z<|sbN)))) ⟨bC _,Z⟩ ?_ ?_
   ·rintro⟨r,a⟩ ⟨hr,ha⟩;have ha:a++Ad r (ns.getD i 0)=Ad w (ns.getD i 0):=ha;have hr:r≤w:=hr;cases r with
    |zero=>refine sq<|sO<|mV Z<|mF Z<|mn<|cF Z<|iN ?_;exact .inl ⟨Z,(),O,Ap Z (by grind[Ad])<|sb4 Z Z Z Z<|(((sbC Z<|sbC Z<|sbN)))⟩
    |succ j=>
     have hal:N a+(j+1)=w:=by have:=congrArg N ha;grind[Ak]
     have hn0:=hn i;have hlt:N (l++Dz w (ns.take i)++a)≤1000000:=by grind[Z2]
     refine sq<|sO<|mV Z<|mT Z<|mn<|cT Z<|kM<|sq<|bM ?_;refine mH hg ?_;refine Ao (v:=aP id 0) Z Z O<|Ao (v:=aP id 0) (Im Z<|Ox hid) Z O<|Ao (v:=aP id 0) (Gv Z<|Ox hid) Z O<|Ao (v:=J U<|ns.getD i 0) Z Z O<|qKv (v:=J U j) Z Z O (iE Y)<|qKv (v:=J U (8*j:Nat)) Z Z O (Bw Y Y Y)<|Ao Z Z K7<|qKv (v:=J .u8 ((iI<|ns.getD i 0/256^j).toNat:Nat)) Z Z O (MG Y)<|Dx<|?_;refine KM Z Z (by have h:=wbU (b:=iI<|ns.getD i 0/256^j) hg (hbU<|l++Dz w (ns.take i)++a) (Ox hid) (QS hjd hne) hlt;rw[QX hne]at h;exact h) ?_;refine oM<|mK (v:=J U j) Z (iE Y)<|mK (v:=J U<|((j:Nat):Int)-1) Z (Bw Y Y Z)<|x1 Z ?_;exact⟨⟨j,a++[iI<|ns.getD i 0/256^j]⟩,⟨Y,by grind[Ad]⟩,by grind,Ap rfl (by grind)<|sb4 Z Z Z Z<|(((sbC Z<|sbC Z<|sbC Z<|sbN)))⟩
   ·rintro _ s' hJ hs;refine jU hs ?_;refine oM<|mI ((i+1:Nat):Int) Z<|x1 Z ?_;exact⟨(i+1),(Y:i+1≤N ns),Y,Ap Z (by rw[GT hlt,cE])<|sb4 Z Z Z Z<|(((sbC Z<|sbN)))⟩
  ·have he:i=N ns:=by omega
   refine mF Z<|mn<|sq<|cF Z<|iN ?_;grind[Ap,sbN]
 ·rintro _ s' hJ hs;exact(A6 (rs:=[]) (vs:=[]) O Z Z hs.H.symm:Ja [] (N H) (aU []) (us H id jd at_<|l++Dz w ns) .normal s')
theorem ET (l:List Bz):N (Ce l)=N l:=by simp[Ce]
theorem oLoadS {s:St}{x:AOpd}{id n T:Nat}{l:List Bz}(hx:ev G s x=some (aP id n))(ho:s.H[id]?=some (C T (Ce l) false))(hn:n<N l):aop G s (.load 1 false x)=some (.val (S<|l.getD n []) s.H []):=
 O9 hx ho (by
  have hlt:n<N (Ce l):=by rw[ET];exact hn
  rw[C3,List.drop_eq_getElem_cons hlt];simp only[Ce,List.getElem_map,eZ,gGe hn,Option.getD_some]
  rfl)
def pf (H:Hz)(id:Nat)(at_:AVal)(b:UInt8)(l:Bz):Hz:=H.set id (C 109 [aP id 0,aH 1 (N H+1) 0 (N l) none,at_] false)++[C 5 [J .u8 (b.toNat:Nat)] false,C 5 (u8c l) true]
section
variable {H : Hz} {id : Nat} {at_ : AVal} {b : UInt8} {l k : Bz}
theorem pf_len :N (pf H id at_ b l)=N H+2:=by simp[pf]
theorem UE (h:id<N H):(pf H id at_ b l)[id]?=some (C 109 [aP id 0,aH 1 (N H+1) 0 (N l) none,at_] false):=gA<|gT h
theorem pf_jd :(pf H id at_ b l)[N H+1]?=some (C 5 (u8c l) true):=by have h:=gL2 (H:=H.set id<|C 109 [aP id 0,aH 1 (N H+1) 0 (N l) none,at_] false) (o:=C 5 [J .u8 (b.toNat:Nat)] false) (x:=C 5 (u8c l) true);rw[lX]at h;exact h
theorem pf_us (h:id<N H):us (pf H id at_ b l) id (N H+1) at_ k=pf H id at_ b k:=by unfold us pf;simp_all
theorem pf_blw {T:TypeId}{c0 c1:AVal}(hb:B7 (N H) H=true)(ho:H[id]?=some (C T [c0,c1,at_] false)):B7 (N H+2) (pf H id at_ b l)=true:=by
 have hid:=gLt ho;have h0:=JN hb ho;have h1:blw (N H) at_=true:=by grind[A8]
 have h1':=T0 (lR (N H) 2) _ h1;refine Fv (Xv (Io (lR _ 2) hb) ?_) ?_
 ·have h2:bB id (N H+2)=true:=by rw[Nat.blt_eq];omega
  simp_all[B7,A8,blw]
 ·simp only[B7,A8,blw,cond_true,Ci]
end
theorem GM (hg:hGr W0 G){H:Hz}{id sd n:Nat}{at_:AVal}{cp:Option Nat}(hb:B7 (N H) H=true)(ho:H[id]?=some (C 109 [.nilPtr,aN,at_] false))(hs:H[sd]?=some (C 3 (Bm [n]) false))(hn:n<9223372036854775808):cP W0 54 [aP id 0,J U 1,aH 1 sd 0 1 cp] H (aU []) (pf H id at_ (iI<|n/256^0)<|Ad 1 n):=by have hid:=gLt ho;refine goM 54 31 ?_;refine sO<|x3 Z Z Z<|bM ?_;refine mD 2 ?_;refine lT ?_;refine sO<|mT Z<|mn<|sq<|cT Z<|kM<|sq<|bM<|sO<|mS (v:=aP sd 0) (MS Z Z hs)<|mV (v:=J U n) (IK (l:=[n]) (n:=0) Z hs<|lY)<|x1 Z<|sO<|mV Z<|mK (v:=J U 0) Z Z<|x1 Z<|bM ?_;refine mD 2 ?_;refine lT ?_;refine sq<|sO<|mV Z<|mT Z<|mn<|cT Z<|kM<|sq<|bM ?_;refine mH hg ?_;refine qV Z<|Ao (v:=aP id 0) (Im Z ho) Z O<|Ao (v:=aP id 0) (Gv Z ho) Z O<|qV Z<|qV Z<|qKv (v:=J U (8*0:Nat)) Z Z O Z<|Ao Z Z (by simp_all[Ah])<|qKv (v:=J .u8 ((iI<|n/256^0).toNat:Nat)) Z Z O (MG V)<|Dx<|?_;refine KM Z Z (show cP W0 89 [aP id 0,J .u8 ((iI<|n/256^0).toNat:Nat)] H .nilIf (pf H id at_ (iI<|n/256^0) [(iI<|n/256^0)])from wbF hg ho) ?_;refine oM<|mV Z<|mK (v:=J U<|0-1) Z Z<|x1 Z ?_;refine lT ?_;refine sq<|sO<|mV Z<|mF Z<|mn<|cF Z ?_;refine iN ?_;refine oM<|mKs (v:=J U 1) Z Z<|x1 Z ?_;refine lT ?_;refine sO<|mF Z<|mn<|sq<|cF Z ?_;exact iN ⟨O,[],Z,.inl ⟨Z,Z⟩⟩
theorem putF2 (hg:hGr W0 G){H:Hz}{id sd n:Nat}{at_:AVal}{cp:Option Nat}(hb:B7 (N H) H=true)(ho:H[id]?=some (C 109 [.nilPtr,aN,at_] false))(hs:H[sd]?=some (C 3 (Bm [n]) false))(hn:n<9223372036854775808):cP W0 54 [aP id 0,J U 2,aH 1 sd 0 1 cp] H (aU []) (pf H id at_ (iI<|n/256^1)<|Ad 2 n):=by have hid:=gLt ho;refine goM 54 31 ?_;refine sO<|x3 Z Z Z<|bM ?_;refine mD 2 ?_;refine lT ?_;refine sO<|mT Z<|mn<|sq<|cT Z<|kM<|sq<|bM<|sO<|mS (v:=aP sd 0) (MS Z Z hs)<|mV (v:=J U n) (IK (l:=[n]) (n:=0) Z hs<|lY)<|x1 Z<|sO<|mV Z<|mK (v:=J U 1) Z Z<|x1 Z<|bM ?_;refine mD 3 ?_;refine lT ?_;refine sq<|sO<|mV Z<|mT Z<|mn<|cT Z<|kM<|sq<|bM ?_;refine mH hg ?_;refine qV Z<|Ao (v:=aP id 0) (Im Z ho) Z O<|Ao (v:=aP id 0) (Gv Z ho) Z O<|qV Z<|qV Z<|qKv (v:=J U (8*1:Nat)) Z Z O Z<|Ao Z Z (by simp_all[Ah])<|qKv (v:=J .u8 ((iI<|n/256^1).toNat:Nat)) Z Z O (MG V)<|Dx<|?_;refine KM Z Z (show cP W0 89 [aP id 0,J .u8 ((iI<|n/256^1).toNat:Nat)] H .nilIf (pf H id at_ (iI<|n/256^1) [(iI<|n/256^1)])from wbF hg ho) ?_;refine oM<|mV Z<|mK (v:=J U<|1-1) Z Z<|x1 Z ?_;refine lT ?_;refine sq<|sO<|mV Z<|mT Z<|mn<|cT Z<|kM<|sq<|bM ?_;refine mH hg ?_;refine qV Z<|Ao (v:=aP id 0) (Im Z<|UE hid) Z O<|Ao (v:=aP id 0) (Gv Z<|UE hid) Z O<|qV Z<|qV Z<|qKv (v:=J U (8*0:Nat)) Z Z O Z<|Ao Z Z (by simp_all[Ah])<|qKv (v:=J .u8 ((iI<|n/256^0).toNat:Nat)) Z Z O (MG V)<|Dx<|?_;refine KM Z Z (by have h:=wbU (b:=(iI<|n/256^0)) (l:=[(iI<|n/256^1)]) (jd:=N H+1) (H:=pf H id at_ (iI<|n/256^1) [(iI<|n/256^1)]) hg (by grind[pf_len,pf_blw]) (UE hid) pf_jd B4;rw[pf_us hid]at h;exact h) ?_;refine oM<|mV Z<|mK (v:=J U<|0-1) Z Z<|x1 Z ?_;refine lT ?_;refine sq<|sO<|mV Z<|mF Z<|mn<|cF Z ?_;refine iN ?_;refine oM<|mKs (v:=J U 1) Z Z<|x1 Z ?_;refine lT ?_;refine sO<|mF Z<|mn<|sq<|cF Z ?_;exact iN ⟨O,[],Z,.inl ⟨Z,Z⟩⟩
def txB (ix:Bz→Nat)(ss:List Bz):Bz:=ss.flatMap λs=>Ad 2<|ix s
theorem DY {ix:Bz→Nat}{ss:List Bz}{i:Nat}(h:i<N ss):txB ix (ss.take<|i+1)=txB ix (ss.take i)++Ad 2 (ix<|ss.getD i []):=by grind[lK,txB]
theorem Lc (ix:Bz→Nat):∀(ss:List Bz),N (txB ix ss)=N ss*2
 | []=>rfl|s::r=>by have:=Lc ix r;grind[txB,Ak]
theorem U1 (w n:Nat):Dz w [n]=Ad w n:=by simp[Dz]
theorem GN {s:St}{m k:AOpd}{md:Nat}{es:List (Bz×Int)}{q:Bz}{x:Nat}(hm:ev G s m=some (.mref md))(hk:ev G s k=some (S q))(ho:s.H[md]?=some (.mp es))(h:Ih es q=(x:Nat)):aop G s (.mapGet m k)=some (.val (J U x) s.H []):=by grind[oMapGet]
theorem textU (hg:hGr W0 G){H:Hz}{id jd sd md:Nat}{l:Bz}{ss:List Bz}{cp:Option Nat}{es:List (Bz×Int)}{ix:Bz→Nat}(hb:B7 (N H) H=true)(ho:H[id]?=some (C 109 [aP id 0,aH 1 jd 0 (N l) none,.mref md] false))(hj:H[jd]?=some (C 5 (u8c l) true))(hs:H[sd]?=some (C 9 (Ce ss) false))(hm:H[md]?=some (.mp es))(hl:N l+N ss*2≤1000000)(hix:∀i,i<N ss→Ih es (ss.getD i [])=(ix (ss.getD i []):Nat))(hixb:∀s,ix s<9223372036854775808):cP W0 88 [aP id 0,aH 1 sd 0 (N ss) cp] H (aU []) (us H id jd (.mref md)<|l++txB ix ss):=by
 have hid:=gLt ho;have hjd:=gLt hj;have hsd:=gLt hs;have hne:id≠jd:=λe=>by grind
 have hsi:id≠sd:=λe=>by grind
 have hsj:jd≠sd:=λe=>by grind
 have hmi:id≠md:=λe=>by grind
 have hmj:jd≠md:=λe=>by grind
 have hsU:∀{k:Bz},(us H id jd (.mref md) k)[sd]?=some (C 9 (Ce ss) false):=λ{k}=>LR hsi hsj hs;have hmU:∀{k:Bz},(us H id jd (.mref md) k)[md]?=some (.mp es):=λ{k}=>LR hmi hmj hm;have hbA:∀{k:Bz}{n:Nat},B7 (N<|us H id jd (.mref md) k++[C 3 (Bm [n]) false]) (us H id jd (.mref md) k++[C 3 (Bm [n]) false])=true:=λ{k n}=>by rw[lAp,J7];exact Fv (Io (lR _ _)<|Ue hb ho hid hjd) Z
 refine goM 88 22 ?_;refine sO<|x3 Z Z Z<|bM ?_;refine jT (σ:=Nat) (τ:=Unit) (λi=>⟨.al [(0,aP id 0),(6,aH 1 sd 0 (N ss) cp),(7,J U<|N ss),(8,J U i)],us H id jd (.mref md)<|l++txB ix (ss.take i),22⟩) (λi=>i≤N ss) (λi=>N ss-i) 0 0 (λ_=>⟨.al [],us H id jd (.mref md)<|l++txB ix ss,22⟩) (λ_=>True) (Ap Z (by rw[lU];show us H id jd (.mref md) (l++[])=H;grind[BI])<|sb4 Z Z Z Z<|(((sbN)))) (hZ _) ?_ ?_
 ·rintro i hi;have hi:i≤N ss:=hi;by_cases hlt:i<N ss
  ·have hbl:N (l++txB ix (ss.take i))+1*2≤1000000:=by rw[lAp,Lc,lW];omega
   refine sO<|mT Z<|mn<|sq<|cT Z<|kM<|sq<|bM<|sO<|mS (v:=aP sd i) (MS Z Z hsU)<|mV (v:=S<|ss.getD i []) (oLoadS Z hsU hlt)<|x1 Z<|oM<|m2 Z Z<|mV (v:=aP id 0) (Im Z<|Ox hid)<|mV (v:=aP id 2) (Gv Z<|Ox hid)<|mV (v:=.mref md) (O9 Z (Ox hid) Z)<|mV Z<|mV (v:=J U<|ix<|ss.getD i []) (GN Z Z hmU<|hix i hlt)<|mK (v:=aH 1 (N H) 0 (N [ix<|ss.getD i []])<|some 1) Z (congrArg (λn=>aH 1 n 0 1<|some 1) J7)<|mC Z (by have h:=putU (H:=us H id jd (.mref md) (l++txB ix (ss.take i))++[C 3 (Bm [ix<|ss.getD i []]) false]) (sd:=N H) (ns:=[ix<|ss.getD i []]) (w:=2) (cp:=some 1) hg hbA (gA<|Ox hid) (gA<|QS hjd hne) (by grind[J7]) V B4 hbl (λj=>by grind);rw[SC (by grind[J7]) (by grind[J7]),QX hne,U1]at h;exact h)<|mn<|oM ?_;refine mFz (s1:=⟨.al [(0,aP id 0),(6,aH 1 sd 0 (N ss) cp),(7,J U<|N ss),(8,J U i)],us H id jd (.mref md)<|l++txB ix (ss.take i)++Ad 2 (ix<|ss.getD i []),22⟩) (As (N H) Z (bC _) Wa (Ue hb ho hid hjd)<|fzC Z (Ji hid)<|fzC Z (fvHx hsd)<|fI<|fI fzN) ?_;refine mI ((i+1:Nat):Int) Z<|x1 Z ?_;exact⟨(i+1),(Y:i+1≤N ss),Y,Ap Z (by rw[DY hlt,cE])<|sb4 Z Z Z Z<|(((sbN)))⟩
  ·have he:i=N ss:=by omega
   refine sO<|mF Z<|mn<|sq<|cF Z<|iN ?_;grind[Ap,sbN]
 ·rintro _ s' hJ hs;exact(A6 (rs:=[]) (vs:=[]) O Z Z hs.H.symm:Ja [] (N H) (aU []) (us H id jd (.mref md)<|l++txB ix ss) .normal s')
section
variable {α : Type} {f : α → AVal} {l : List α} {d : α} {s : St}
end
theorem L9 {α:Type}{f:α→Bz}{l:List α}{i:Nat}(d:α)(h:i<N l):(l.take<|i+1).flatMap f=(l.take i).flatMap f++f (l.getD i d):=by grind[lK]
theorem Ee {α:Type}{f:α→Bz}{w:Nat}(hf:∀x,N (f x)=w):∀(l:List α),N (l.flatMap f)=N l*w
 | []=>B4|x::r=>by rw[lA,lAp,hf,Ee hf r,lCo,bE];omega
theorem fm_le {α:Type}{f:α→Bz}{l:List α}{i:Nat}(d:α)(h:i<N l):N ((l.take i).flatMap f)+N (f<|l.getD i d)≤N (l.flatMap f):=by have h1:=congrArg N<|L9 (f:=f) d h;grind[bX]
def clB (ix:Bz→Nat)(cs:List PCl):Bz:=cs.flatMap (λc=>Ad 1 c.r)++(cs.flatMap (λc=>Ad 1 c.c)++cs.flatMap (λc=>Ad 2<|ix c.s))
def shB (ix:Bz→Nat)(s:PSh):Bz:=Ad 2 (ix s.nm)++(Ad 2 (N s.cs)++clB ix s.cs)
def Fj (ix:Bz→Nat)(l:List PSh):Bz:=Ad 1 (N l)++l.flatMap (shB ix)
theorem clB_len {ix:Bz→Nat}{cs:List PCl}:N (clB ix cs)=N cs*4:=by unfold clB;rw[lAp,lAp,Ee (w:=1)<|λ_=>Ak _ _,Ee (w:=1)<|λ_=>Ak _ _,Ee (w:=2)<|λ_=>Ak _ _];omega
theorem Wb {ix:Bz→Nat}{s:PSh}:N (shB ix s)=4+N s.cs*4:=by grind[shB,Ak,clB_len]
def wbH (es:List<|Bz×Int)(bk:List AVal)(n0:Nat)(b0:UInt8)(l:Bz):Hz:=[C 109 [aP 0 0,aH 1 5 0 (N l) none,.mref 1] false,.mp es,C 31 bk false,C 3 (Bm [n0]) false,C 5 [J .u8 (b0.toNat:Nat)] false,C 5 (u8c l) true]
theorem LW {es:List (Bz×Int)}{bk:List AVal}{n0:Nat}{b0:UInt8}{l:Bz}{n:Nat}(hbk:∀n,A8 n bk=true)(h:6≤n):B7 n (wbH es bk n0 b0 l)=true:=by have h0:bB 0 n=true:=Uk Y;have h1:bB 1 n=true:=Uk Y;simp_all[bB,wbH,B7,A8,blw,Bc,Ci]
theorem Ym (hg:hGr W0 G){H:Hz}{id jd sd w n:Nat}{at_:AVal}{l:Bz}{cp:Option Nat}(hb:B7 (N H) H=true)(ho:H[id]?=some (C 109 [aP id 0,aH 1 jd 0 (N l) none,at_] false))(hj:H[jd]?=some (C 5 (u8c l) true))(hs:H[sd]?=some (C 3 [J U n] false))(hw:w≤8)(hl:N l+w≤1000000)(hn:n<9223372036854775808):cP W0 54 [aP id 0,J U w,aH 1 sd 0 1 cp] H (aU []) (us H id jd at_<|l++Ad w n):=by have h:=putU (ns:=[n]) (cp:=cp) hg hb ho hj hs hw B4 (by grind) (λi=>by grind);grind[U1]
theorem TT (hg:hGr W0 G){H:Hz}{id jd sd md:Nat}{l:Bz}{q:Bz}{cp:Option Nat}{es:List (Bz×Int)}{ix:Bz→Nat}(hb:B7 (N H) H=true)(ho:H[id]?=some (C 109 [aP id 0,aH 1 jd 0 (N l) none,.mref md] false))(hj:H[jd]?=some (C 5 (u8c l) true))(hs:H[sd]?=some (C 9 [S q] false))(hm:H[md]?=some (.mp es))(hl:N l+2≤1000000)(hix:Ih es q=(ix q:Nat))(hixb:∀s,ix s<9223372036854775808):cP W0 88 [aP id 0,aH 1 sd 0 1 cp] H (aU []) (us H id jd (.mref md)<|l++Ad 2 (ix q)):=by have h:=textU (ss:=[q]) (cp:=cp) (ix:=ix) hg hb ho hj hs hm Y (λi hi=>by grind) hixb;grind[txB]
theorem sheetsP (hg:hGr W0 G){es:List (Bz×Int)}{bkr:List AVal}{shs:List PSh}{ix:Bz→Nat}(hc:∀n,A8 n bkr=true)(h1:∀i,i<N shs→Ih es (shs.getD i ps0).nm=(ix (shs.getD i ps0).nm:Nat))(h2:∀i,i<N shs→∀j,j<(shs.getD i ps0).cs.length→Ih es ((shs.getD i ps0).cs.getD j pc0).s=(ix ((shs.getD i ps0).cs.getD j pc0).s:Nat)∧((shs.getD i ps0).cs.getD j pc0).r<9223372036854775808∧((shs.getD i ps0).cs.getD j pc0).c<9223372036854775808)(h3:∀s,ix s<9223372036854775808)(hl:N (Fj ix shs)≤1000000):
 cP W0 50 [aP 0 0,aG (aR 2 (shs.map psV)::bkr)] [C 109 [.nilPtr,aN,.mref 1] false,.mp es] (aU []) (wbH es (aR 2 (shs.map psV)::bkr) (N shs) (iI<|N shs/256^0)<|Fj ix shs):=by
 have hbk:∀n,A8 n (aR 2 (shs.map psV)::bkr)=true:=λn=>by show cond (A8 n<|shs.map psV) (A8 n bkr) false=true;rw[Av,hc];rfl
 have hsl:N shs≤1000000:=by
  have q:=hl;rw[Fj,lAp]at q;have:∀l:List PSh,N l≤N (l.flatMap<|shB ix):=λl=>by induction l with|nil=>exact bC _|cons x r ih=>rw[lA,lAp,Wb,lCo];omega
  grind
 refine goM 50 76 ?_;refine sO<|mV (v:=aP 2 0) Z<|mn<|sO<|m3 Z Z Z<|mV (v:=J U<|N shs) (Hy Z)<|mV (v:=aH 1 3 0 1<|some 1) Z<|mC Z (GM (n:=N shs) (H:=[C 109 [.nilPtr,aN,.mref 1] false,HObj.mp es,C 31 (aR 2 (shs.map psV)::bkr) false,C 3 [J U<|N shs] false]) hg bY7 Z Z Y)<|mn<|sO<|m2 Z Z<|mV (v:=J U<|N shs) (Hy Z)<|x1 Z<|bM ?_;refine jT (σ:=Nat) (τ:=Unit) (λi=>⟨.al [(0,aP 0 0),(19,aR 2<|shs.map psV),(20,J U<|N shs),(21,J U i)],wbH es (aR 2 (shs.map psV)::bkr) (N shs) (iI<|N shs/256^0)<|Ad 1 (N shs)++(shs.take i).flatMap (shB ix),76⟩) (λi=>i≤N shs) (λi=>N shs-i) 0 0 (λ_=>⟨.al [],wbH es (aR 2 (shs.map psV)::bkr) (N shs) (iI<|N shs/256^0)<|Fj ix shs,76⟩) (λ_=>True) (Ap Z bY60<|sb4 Z Z Z Z<|(((sbN)))) (hZ _) ?_ ?_
 ·rintro i hi;have hi:i≤N shs:=hi;by_cases hlt:i<N shs
  ·have hb:N (Ad 1 (N shs)++(shs.take i).flatMap (shB ix))+(4+(shs.getD i ps0).cs.length*4)≤1000000:=by have q:=fm_le (f:=shB ix) ps0 hlt;grind[Wb,Fj]
   have hb1:N (Ad 1 (N shs)++(shs.take i).flatMap (shB ix))+2≤1000000:=Y;have hb2:N (Ad 1 (N shs)++(shs.take i).flatMap (shB ix)++Ad 2 (ix (shs.getD i ps0).nm))+2≤1000000:=RZ;refine sO<|mT Z<|mn<|sq<|cT Z<|kM<|sq<|bM<|sO<|mS (v:=aE (psV<|shs.getD i ps0) 0) (Dn Z Z Z hlt)<|mV Z<|mV (v:=aP 6 0) Z<|Ai hg gN Z<|mn<|sO<|m3 Z Z Z<|mV (v:=aH 1 7 0 1<|some 1) Z<|mC Z (TT (q:=(shs.getD i ps0).nm) (ix:=ix) (H:=wbH es (aR 2 (shs.map psV)::bkr) (N shs) (iI<|N shs/256^0) (Ad 1 (N shs)++(shs.take i).flatMap (shB ix))++[C 44 [S (shs.getD i ps0).nm,aR 3<|(shs.getD i ps0).cs.map pcV] false,C 9 [S (shs.getD i ps0).nm] false]) hg bY7 Z Z Z Z hb1 (h1 i hlt) h3)<|mn<|sq ?_;refine jU (s1:=⟨.al [(0,aP 0 0),(5,aP 6 0),(19,aR 2<|shs.map psV),(20,J U<|N shs),(21,J U i)],wbH es (aR 2 (shs.map psV)::bkr) (N shs) (iI<|N shs/256^0) (Ad 1 (N shs)++(shs.take i).flatMap (shB ix)++Ad 2 (ix (shs.getD i ps0).nm))++[C 44 [S (shs.getD i ps0).nm,aR 3<|(shs.getD i ps0).cs.map pcV] false,C 9 [S (shs.getD i ps0).nm] false],76⟩) (Ap Z Z<|sb4 Z Z Z Z<|(((sbC Z<|sbN)))) ?_;refine oM<|m3 Z Z Z<|mV (v:=J U<|(shs.getD i ps0).cs.length) (Hy Z)<|mV (v:=aH 1 8 0 1<|some 1) Z<|mC Z (Ym (w:=2) (n:=(shs.getD i ps0).cs.length) (H:=wbH es (aR 2 (shs.map psV)::bkr) (N shs) (iI<|N shs/256^0) (Ad 1 (N shs)++(shs.take i).flatMap (shB ix)++Ad 2 (ix (shs.getD i ps0).nm))++[C 44 [S (shs.getD i ps0).nm,aR 3<|(shs.getD i ps0).cs.map pcV] false,C 9 [S (shs.getD i ps0).nm] false,C 3 [J U<|(shs.getD i ps0).cs.length] false]) hg bY7 Z Z Z V hb2 Y)<|mn<|sq<|sq ?_;refine jU (s1:=⟨.al [(0,aP 0 0),(5,aP 6 0),(19,aR 2<|shs.map psV),(20,J U<|N shs),(21,J U i)],wbH es (aR 2 (shs.map psV)::bkr) (N shs) (iI<|N shs/256^0) (Ad 1 (N shs)++(shs.take i).flatMap (shB ix)++Ad 2 (ix (shs.getD i ps0).nm)++Ad 2 (shs.getD i ps0).cs.length)++[C 44 [S (shs.getD i ps0).nm,aR 3<|(shs.getD i ps0).cs.map pcV] false,C 9 [S (shs.getD i ps0).nm] false,C 3 [J U<|(shs.getD i ps0).cs.length] false],76⟩) (Ap Z Z<|sb4 Z Z Z Z<|(((sbC Z<|sbN)))) ?_;refine oM<|m2 Z Z<|mV (v:=J U<|(shs.getD i ps0).cs.length) (Hy Z)<|x1 Z<|bM ?_;refine jT (σ:=Nat) (τ:=Unit) (λj=>⟨.al [(0,aP 0 0),(5,aP 6 0),(19,aR 2<|shs.map psV),(20,J U<|N shs),(21,J U i),(37,aR 3<|(shs.getD i ps0).cs.map pcV),(38,J U<|(shs.getD i ps0).cs.length),(39,J U j)],wbH es (aR 2 (shs.map psV)::bkr) (N shs) (iI<|N shs/256^0) (Ad 1 (N shs)++(shs.take i).flatMap (shB ix)++Ad 2 (ix (shs.getD i ps0).nm)++Ad 2 (shs.getD i ps0).cs.length++((shs.getD i ps0).cs.take j).flatMap (λc=>Ad 1 c.r))++[C 44 [S (shs.getD i ps0).nm,aR 3<|(shs.getD i ps0).cs.map pcV] false,C 9 [S (shs.getD i ps0).nm] false,C 3 [J U<|(shs.getD i ps0).cs.length] false],76⟩) (λj=>j≤(shs.getD i ps0).cs.length) (λj=>(shs.getD i ps0).cs.length-j) 0 2 (λ_=>⟨.al [(0,aP 0 0),(5,aP 6 0),(19,aR 2<|shs.map psV),(20,J U<|N shs),(21,J U i)],wbH es (aR 2 (shs.map psV)::bkr) (N shs) (iI<|N shs/256^0) (Ad 1 (N shs)++(shs.take i).flatMap (shB ix)++Ad 2 (ix (shs.getD i ps0).nm)++Ad 2 (shs.getD i ps0).cs.length++(shs.getD i ps0).cs.flatMap (λc=>Ad 1 c.r))++[C 44 [S (shs.getD i ps0).nm,aR 3<|(shs.getD i ps0).cs.map pcV] false,C 9 [S (shs.getD i ps0).nm] false,C 3 [J U<|(shs.getD i ps0).cs.length] false],76⟩) (λ_=>True) (Ap Z (by grind)<|sb4 Z Z Z Z<|(((sb4 Z Z Z Z<|(((sbN))))))) (hZ _) ?_ ?_
   ·rintro j hj;have hj:j≤(shs.getD i ps0).cs.length:=hj;by_cases hjl:j<(shs.getD i ps0).cs.length
    ·obtain⟨c1,c2,c3⟩:=h2 i hlt j hjl;have hcl:N (Ad 1 (N shs)++(shs.take i).flatMap (shB ix)++Ad 2 (ix (shs.getD i ps0).nm)++Ad 2 (shs.getD i ps0).cs.length++((shs.getD i ps0).cs.take j).flatMap (λc=>Ad 1 c.r))+2≤1000000:=by have q0:=Ee (f:=λc:PCl=>Ad 1 c.r) (w:=1) (λ_=>Ak _ _) (shs.getD i ps0).cs;have q1:=Ee (f:=λc:PCl=>Ad 1 c.c) (w:=1) (λ_=>Ak _ _) (shs.getD i ps0).cs;have q2:=Ee (f:=λc:PCl=>Ad 1 c.r) (w:=1) (λ_=>Ak _ _)<|(shs.getD i ps0).cs.take j;grind[Ak]
     refine sO<|mT Z<|mn<|sq<|cT Z<|kM<|sq<|bM<|sO<|mS (v:=aE (pcV<|(shs.getD i ps0).cs.getD j pc0) 0) (Dn Z Z Z hjl)<|mV Z<|mV (v:=aP 9 0) Z<|Ai hg gN Z<|mn<|oM<|m3 Z Z Z<|mV (v:=aH 1 10 0 1<|some 1) Z<|mC Z (Ym (w:=1) (n:=((shs.getD i ps0).cs.getD j pc0).r) (H:=wbH es (aR 2 (shs.map psV)::bkr) (N shs) (iI<|N shs/256^0) (Ad 1 (N shs)++(shs.take i).flatMap (shB ix)++Ad 2 (ix (shs.getD i ps0).nm)++Ad 2 (shs.getD i ps0).cs.length++((shs.getD i ps0).cs.take j).flatMap (λc=>Ad 1 c.r))++[C 44 [S (shs.getD i ps0).nm,aR 3<|(shs.getD i ps0).cs.map pcV] false,C 9 [S (shs.getD i ps0).nm] false,C 3 [J U<|(shs.getD i ps0).cs.length] false]++[C 81 [J U<|((shs.getD i ps0).cs.getD j pc0).r,J U<|((shs.getD i ps0).cs.getD j pc0).c,S ((shs.getD i ps0).cs.getD j pc0).s] false,C 3 [J U<|((shs.getD i ps0).cs.getD j pc0).r] false]) hg bY7 Z Z Z V Y Y)<|mn<|oM ?_;refine mFz (s1:=⟨.al [(0,aP 0 0),(5,aP 6 0),(19,aR 2<|shs.map psV),(20,J U<|N shs),(21,J U i),(37,aR 3<|(shs.getD i ps0).cs.map pcV),(38,J U<|(shs.getD i ps0).cs.length),(39,J U j)],wbH es (aR 2 (shs.map psV)::bkr) (N shs) (iI<|N shs/256^0) (Ad 1 (N shs)++(shs.take i).flatMap (shB ix)++Ad 2 (ix (shs.getD i ps0).nm)++Ad 2 (shs.getD i ps0).cs.length++((shs.getD i ps0).cs.take j).flatMap (λc=>Ad 1 c.r)++Ad 1 ((shs.getD i ps0).cs.getD j pc0).r)++[C 44 [S (shs.getD i ps0).nm,aR 3<|(shs.getD i ps0).cs.map pcV] false,C 9 [S (shs.getD i ps0).nm] false,C 3 [J U<|(shs.getD i ps0).cs.length] false],76⟩) (As 9 Z (aO Z) Z bY7<|fzC Z (Ji V)<|fzC Z (Ji V)<|fzC Z (Aq<|Av _)<|fI<|fI<|fzC Z (Aq<|B8 _)<|fI<|fI fzN) ?_;refine mI ((j+1:Nat):Int) Z<|x1 Z ?_;exact⟨(j+1),(Y:j+1≤(shs.getD i ps0).cs.length),Y,Ap Z RA<|sb4 Z Z Z Z<|(((sb4 Z Z Z Z<|(((sbN))))))⟩
    ·have he:j=(shs.getD i ps0).cs.length:=by omega
     refine sO<|mF Z<|mn<|sq<|cF Z<|iN ?_;exact .inl ⟨Z,(),O,Ap Z (by grind)<|sb4 Z Z Z Z<|(((sbC Z<|sbN)))⟩
   ·rintro _ s' hJ hs;refine jU hs ?_;refine sq<|sO<|m2 Z Z<|mV (v:=J U<|(shs.getD i ps0).cs.length) (Hy Z)<|x1 Z<|bM ?_;refine jT (σ:=Nat) (τ:=Unit) (λj=>⟨.al [(0,aP 0 0),(5,aP 6 0),(19,aR 2<|shs.map psV),(20,J U<|N shs),(21,J U i),(50,aR 3<|(shs.getD i ps0).cs.map pcV),(51,J U<|(shs.getD i ps0).cs.length),(52,J U j)],wbH es (aR 2 (shs.map psV)::bkr) (N shs) (iI<|N shs/256^0) (Ad 1 (N shs)++(shs.take i).flatMap (shB ix)++Ad 2 (ix (shs.getD i ps0).nm)++Ad 2 (shs.getD i ps0).cs.length++(shs.getD i ps0).cs.flatMap (λc=>Ad 1 c.r)++((shs.getD i ps0).cs.take j).flatMap (λc=>Ad 1 c.c))++[C 44 [S (shs.getD i ps0).nm,aR 3<|(shs.getD i ps0).cs.map pcV] false,C 9 [S (shs.getD i ps0).nm] false,C 3 [J U<|(shs.getD i ps0).cs.length] false],76⟩) (λj=>j≤(shs.getD i ps0).cs.length) (λj=>(shs.getD i ps0).cs.length-j) 0 4 (λ_=>⟨.al [(0,aP 0 0),(5,aP 6 0),(19,aR 2<|shs.map psV),(20,J U<|N shs),(21,J U i)],wbH es (aR 2 (shs.map psV)::bkr) (N shs) (iI<|N shs/256^0) (Ad 1 (N shs)++(shs.take i).flatMap (shB ix)++Ad 2 (ix (shs.getD i ps0).nm)++Ad 2 (shs.getD i ps0).cs.length++(shs.getD i ps0).cs.flatMap (λc=>Ad 1 c.r)++(shs.getD i ps0).cs.flatMap (λc=>Ad 1 c.c))++[C 44 [S (shs.getD i ps0).nm,aR 3<|(shs.getD i ps0).cs.map pcV] false,C 9 [S (shs.getD i ps0).nm] false,C 3 [J U<|(shs.getD i ps0).cs.length] false],76⟩) (λ_=>True) (Ap Z (by grind)<|sb4 Z Z Z Z<|(((sb4 Z Z Z Z<|(((sbN))))))) (hZ _) ?_ ?_
    ·rintro j hj;have hj:j≤(shs.getD i ps0).cs.length:=hj;by_cases hjl:j<(shs.getD i ps0).cs.length
     ·obtain⟨c1,c2,c3⟩:=h2 i hlt j hjl;have hcl:N (Ad 1 (N shs)++(shs.take i).flatMap (shB ix)++Ad 2 (ix (shs.getD i ps0).nm)++Ad 2 (shs.getD i ps0).cs.length++(shs.getD i ps0).cs.flatMap (λc=>Ad 1 c.r)++((shs.getD i ps0).cs.take j).flatMap (λc=>Ad 1 c.c))+2≤1000000:=by have q0:=Ee (f:=λc:PCl=>Ad 1 c.r) (w:=1) (λ_=>Ak _ _) (shs.getD i ps0).cs;have q1:=Ee (f:=λc:PCl=>Ad 1 c.c) (w:=1) (λ_=>Ak _ _) (shs.getD i ps0).cs;have q2:=Ee (f:=λc:PCl=>Ad 1 c.c) (w:=1) (λ_=>Ak _ _)<|(shs.getD i ps0).cs.take j;grind[Ak]
      refine sO<|mT Z<|mn<|sq<|cT Z<|kM<|sq<|bM<|sO<|mS (v:=aE (pcV<|(shs.getD i ps0).cs.getD j pc0) 0) (Dn Z Z Z hjl)<|mV Z<|mV (v:=aP 9 0) Z<|Ai hg gN Z<|mn<|oM<|m3 Z Z Z<|mV (v:=aH 1 10 0 1<|some 1) Z<|mC Z (Ym (w:=1) (n:=((shs.getD i ps0).cs.getD j pc0).c) (H:=wbH es (aR 2 (shs.map psV)::bkr) (N shs) (iI<|N shs/256^0) (Ad 1 (N shs)++(shs.take i).flatMap (shB ix)++Ad 2 (ix (shs.getD i ps0).nm)++Ad 2 (shs.getD i ps0).cs.length++(shs.getD i ps0).cs.flatMap (λc=>Ad 1 c.r)++((shs.getD i ps0).cs.take j).flatMap (λc=>Ad 1 c.c))++[C 44 [S (shs.getD i ps0).nm,aR 3<|(shs.getD i ps0).cs.map pcV] false,C 9 [S (shs.getD i ps0).nm] false,C 3 [J U<|(shs.getD i ps0).cs.length] false]++[C 81 [J U<|((shs.getD i ps0).cs.getD j pc0).r,J U<|((shs.getD i ps0).cs.getD j pc0).c,S ((shs.getD i ps0).cs.getD j pc0).s] false,C 3 [J U<|((shs.getD i ps0).cs.getD j pc0).c] false]) hg bY7 Z Z Z V Y Y)<|mn<|oM ?_;refine mFz (s1:=⟨.al [(0,aP 0 0),(5,aP 6 0),(19,aR 2<|shs.map psV),(20,J U<|N shs),(21,J U i),(50,aR 3<|(shs.getD i ps0).cs.map pcV),(51,J U<|(shs.getD i ps0).cs.length),(52,J U j)],wbH es (aR 2 (shs.map psV)::bkr) (N shs) (iI<|N shs/256^0) (Ad 1 (N shs)++(shs.take i).flatMap (shB ix)++Ad 2 (ix (shs.getD i ps0).nm)++Ad 2 (shs.getD i ps0).cs.length++(shs.getD i ps0).cs.flatMap (λc=>Ad 1 c.r)++((shs.getD i ps0).cs.take j).flatMap (λc=>Ad 1 c.c)++Ad 1 ((shs.getD i ps0).cs.getD j pc0).c)++[C 44 [S (shs.getD i ps0).nm,aR 3<|(shs.getD i ps0).cs.map pcV] false,C 9 [S (shs.getD i ps0).nm] false,C 3 [J U<|(shs.getD i ps0).cs.length] false],76⟩) (As 9 Z (aO Z) Z bY7<|fzC Z (Ji V)<|fzC Z (Ji V)<|fzC Z (Aq<|Av _)<|fI<|fI<|fzC Z (Aq<|B8 _)<|fI<|fI fzN) ?_;refine mI ((j+1:Nat):Int) Z<|x1 Z ?_;exact⟨(j+1),(Y:j+1≤(shs.getD i ps0).cs.length),Y,Ap Z RA<|sb4 Z Z Z Z<|(((sb4 Z Z Z Z<|(((sbN))))))⟩
     ·have he:j=(shs.getD i ps0).cs.length:=by omega
      refine sO<|mF Z<|mn<|sq<|cF Z<|iN ?_;exact .inl ⟨Z,(),O,Ap Z (by grind)<|sb4 Z Z Z Z<|(((sbC Z<|sbN)))⟩
    ·rintro _ s' hJ hs;refine jU hs ?_;refine sO<|m2 Z Z<|mV (v:=J U<|(shs.getD i ps0).cs.length) (Hy Z)<|x1 Z<|bM ?_;refine jT (σ:=Nat) (τ:=Unit) (λj=>⟨.al [(0,aP 0 0),(5,aP 6 0),(19,aR 2<|shs.map psV),(20,J U<|N shs),(21,J U i),(63,aR 3<|(shs.getD i ps0).cs.map pcV),(64,J U<|(shs.getD i ps0).cs.length),(65,J U j)],wbH es (aR 2 (shs.map psV)::bkr) (N shs) (iI<|N shs/256^0) (Ad 1 (N shs)++(shs.take i).flatMap (shB ix)++Ad 2 (ix (shs.getD i ps0).nm)++Ad 2 (shs.getD i ps0).cs.length++(shs.getD i ps0).cs.flatMap (λc=>Ad 1 c.r)++(shs.getD i ps0).cs.flatMap (λc=>Ad 1 c.c)++((shs.getD i ps0).cs.take j).flatMap (λc=>Ad 2<|ix c.s))++[C 44 [S (shs.getD i ps0).nm,aR 3<|(shs.getD i ps0).cs.map pcV] false,C 9 [S (shs.getD i ps0).nm] false,C 3 [J U<|(shs.getD i ps0).cs.length] false],76⟩) (λj=>j≤(shs.getD i ps0).cs.length) (λj=>(shs.getD i ps0).cs.length-j) 0 6 (λ_=>⟨.al [(0,aP 0 0),(5,aP 6 0),(19,aR 2<|shs.map psV),(20,J U<|N shs),(21,J U i)],wbH es (aR 2 (shs.map psV)::bkr) (N shs) (iI<|N shs/256^0) (Ad 1 (N shs)++(shs.take i).flatMap (shB ix)++Ad 2 (ix (shs.getD i ps0).nm)++Ad 2 (shs.getD i ps0).cs.length++(shs.getD i ps0).cs.flatMap (λc=>Ad 1 c.r)++(shs.getD i ps0).cs.flatMap (λc=>Ad 1 c.c)++(shs.getD i ps0).cs.flatMap (λc=>Ad 2<|ix c.s))++[C 44 [S (shs.getD i ps0).nm,aR 3<|(shs.getD i ps0).cs.map pcV] false,C 9 [S (shs.getD i ps0).nm] false,C 3 [J U<|(shs.getD i ps0).cs.length] false],76⟩) (λ_=>True) (Ap Z (by grind)<|sb4 Z Z Z Z<|(((sb4 Z Z Z Z<|(((sbN))))))) (hZ _) ?_ ?_
     ·rintro j hj;have hj:j≤(shs.getD i ps0).cs.length:=hj;by_cases hjl:j<(shs.getD i ps0).cs.length
      ·obtain⟨c1,c2,c3⟩:=h2 i hlt j hjl;have hcl:N (Ad 1 (N shs)++(shs.take i).flatMap (shB ix)++Ad 2 (ix (shs.getD i ps0).nm)++Ad 2 (shs.getD i ps0).cs.length++(shs.getD i ps0).cs.flatMap (λc=>Ad 1 c.r)++(shs.getD i ps0).cs.flatMap (λc=>Ad 1 c.c)++((shs.getD i ps0).cs.take j).flatMap (λc=>Ad 2<|ix c.s))+2≤1000000:=by have q0:=Ee (f:=λc:PCl=>Ad 1 c.r) (w:=1) (λ_=>Ak _ _) (shs.getD i ps0).cs;have q1:=Ee (f:=λc:PCl=>Ad 1 c.c) (w:=1) (λ_=>Ak _ _) (shs.getD i ps0).cs;have q2:=Ee (f:=λc:PCl=>Ad 2<|ix c.s) (w:=2) (λ_=>Ak _ _)<|(shs.getD i ps0).cs.take j;grind[Ak]
       refine sO<|mT Z<|mn<|sq<|cT Z<|kM<|sq<|bM<|sO<|mS (v:=aE (pcV<|(shs.getD i ps0).cs.getD j pc0) 0) (Dn Z Z Z hjl)<|mV Z<|mV (v:=aP 9 0) Z<|Ai hg gN Z<|mn<|oM<|m3 Z Z Z<|mV (v:=aH 1 10 0 1<|some 1) Z<|mC Z (TT (q:=((shs.getD i ps0).cs.getD j pc0).s) (ix:=ix) (H:=wbH es (aR 2 (shs.map psV)::bkr) (N shs) (iI<|N shs/256^0) (Ad 1 (N shs)++(shs.take i).flatMap (shB ix)++Ad 2 (ix (shs.getD i ps0).nm)++Ad 2 (shs.getD i ps0).cs.length++(shs.getD i ps0).cs.flatMap (λc=>Ad 1 c.r)++(shs.getD i ps0).cs.flatMap (λc=>Ad 1 c.c)++((shs.getD i ps0).cs.take j).flatMap (λc=>Ad 2<|ix c.s))++[C 44 [S (shs.getD i ps0).nm,aR 3<|(shs.getD i ps0).cs.map pcV] false,C 9 [S (shs.getD i ps0).nm] false,C 3 [J U<|(shs.getD i ps0).cs.length] false]++[C 81 [J U<|((shs.getD i ps0).cs.getD j pc0).r,J U<|((shs.getD i ps0).cs.getD j pc0).c,S ((shs.getD i ps0).cs.getD j pc0).s] false,C 9 [S ((shs.getD i ps0).cs.getD j pc0).s] false]) hg bY7 Z Z Z Z hcl c1 h3)<|mn<|oM ?_;refine mFz (s1:=⟨.al [(0,aP 0 0),(5,aP 6 0),(19,aR 2<|shs.map psV),(20,J U<|N shs),(21,J U i),(63,aR 3<|(shs.getD i ps0).cs.map pcV),(64,J U<|(shs.getD i ps0).cs.length),(65,J U j)],wbH es (aR 2 (shs.map psV)::bkr) (N shs) (iI<|N shs/256^0) (Ad 1 (N shs)++(shs.take i).flatMap (shB ix)++Ad 2 (ix (shs.getD i ps0).nm)++Ad 2 (shs.getD i ps0).cs.length++(shs.getD i ps0).cs.flatMap (λc=>Ad 1 c.r)++(shs.getD i ps0).cs.flatMap (λc=>Ad 1 c.c)++((shs.getD i ps0).cs.take j).flatMap (λc=>Ad 2<|ix c.s)++Ad 2 (ix ((shs.getD i ps0).cs.getD j pc0).s))++[C 44 [S (shs.getD i ps0).nm,aR 3<|(shs.getD i ps0).cs.map pcV] false,C 9 [S (shs.getD i ps0).nm] false,C 3 [J U<|(shs.getD i ps0).cs.length] false],76⟩) (As 9 Z (aO Z) Z bY7<|fzC Z (Ji V)<|fzC Z (Ji V)<|fzC Z (Aq<|Av _)<|fI<|fI<|fzC Z (Aq<|B8 _)<|fI<|fI fzN) ?_;refine mI ((j+1:Nat):Int) Z<|x1 Z ?_;exact⟨(j+1),(Y:j+1≤(shs.getD i ps0).cs.length),Y,Ap Z RA<|sb4 Z Z Z Z<|(((sb4 Z Z Z Z<|(((sbN))))))⟩
      ·have he:j=(shs.getD i ps0).cs.length:=by omega
       refine sO<|mF Z<|mn<|sq<|cF Z<|iN ?_;exact .inl ⟨Z,(),O,Ap Z (by grind)<|sb4 Z Z Z Z<|(((sbC Z<|sbN)))⟩
     ·rintro _ s' hJ hs;refine jU hs ?_;refine oM ?_;refine mFz (s1:=⟨.al [(0,aP 0 0),(19,aR 2<|shs.map psV),(20,J U<|N shs),(21,J U i)],wbH es (aR 2 (shs.map psV)::bkr) (N shs) (iI<|N shs/256^0)<|Ad 1 (N shs)++(shs.take i).flatMap (shB ix)++Ad 2 (ix (shs.getD i ps0).nm)++Ad 2 (shs.getD i ps0).cs.length++(shs.getD i ps0).cs.flatMap (λc=>Ad 1 c.r)++(shs.getD i ps0).cs.flatMap (λc=>Ad 1 c.c)++(shs.getD i ps0).cs.flatMap (λc=>Ad 2<|ix c.s),76⟩) (As 6 Z (aO Z) Z (LW hbk V)<|fzC Z (Ji V)<|fzC Z (Aq<|Av _)<|fI<|fI fzN) ?_;refine mI ((i+1:Nat):Int) Z<|x1 Z ?_;exact⟨(i+1),(Y:i+1≤N shs),Y,Ap Z (by grind[L9,shB,clB])<|sb4 Z Z Z Z<|(((sbN)))⟩
  ·have he:i=N shs:=by omega
   refine sO<|mF Z<|mn<|sq<|cF Z<|iN ?_;exact .inl ⟨Z,(),O,Ap Z (by rw[he,lL];rfl)<|sbN⟩
 ·rintro _ s' hJ hs;exact(A6 (rs:=[]) (vs:=[]) O Z Z hs.H.symm:Ja [] 2 (aU []) (wbH es (aR 2 (shs.map psV)::bkr) (N shs) (iI<|N shs/256^0)<|Fj ix shs) .normal s')
def dcB (s:Bz):Bz:=Ad 2 (N s)++s
def Ia (l:List Bz):Bz:=Ad 2 (N l)++l.flatMap dcB
def Hl (es:List<|Bz×Int)(hv bk:List AVal)(n0:Nat)(b0:UInt8)(l:Bz):Hz:=[C 109 [aP 0 0,aH 1 6 0 (N l) none,.mref 1] false,.mp es,C 49 hv false,C 31 bk false,C 3 (Bm [n0]) false,C 5 [J .u8 (b0.toNat:Nat)] false,C 5 (u8c l) true]
theorem NG {es:List (Bz×Int)}{hv bk:List AVal}{n0:Nat}{b0:UInt8}{l:Bz}{n:Nat}(hhv:∀n,A8 n hv=true)(hbk:∀n,A8 n bk=true)(h:7≤n):B7 n (Hl es hv bk n0 b0 l)=true:=by have h0:bB 0 n=true:=Uk Y;have h1:bB 1 n=true:=Uk Y;simp_all[bB,Hl,B7,A8,blw,Bc,Ci]
theorem Cf {n:Nat}:∀(l:List Bz),A8 n (Ce l)=true
 | []=>rfl|_::l=>Cf l
theorem dictP (hg:hGr W0 G){es:List (Bz×Int)}{hv bk:List AVal}{ss:List Bz}(hhv:∀n,A8 n hv=true)(hbk:∀n,A8 n bk=true)(hne:∀i,i<N ss→ss.getD i []≠[])(hl:N (Ia ss)≤1000000):cP W0 49 [aP 0 0,aR 1<|ss.map S] [C 109 [.nilPtr,aN,.mref 1] false,HObj.mp es,C 49 hv false,C 31 bk false] (aU []) (Hl es hv bk (N ss) (iI<|N ss/256^1)<|Ia ss):=by
 have hsl:N ss≤1000000:=by
  have q:=hl;rw[Ia,lAp]at q;have:∀l:List Bz,N l≤N (l.flatMap dcB):=λl=>by induction l with|nil=>exact bC _|cons x r ih=>rw[lA,lAp,dcB,lAp,Ak,lCo];omega
  grind
 refine goM 49 28 ?_;refine sO<|m2 Z Z<|mV (v:=J U<|N ss) (Hy Z)<|mV (v:=aH 1 4 0 1<|some 1) Z<|mC Z (putF2 (n:=N ss) (H:=[C 109 [.nilPtr,aN,.mref 1] false,HObj.mp es,C 49 hv false,C 31 bk false,C 3 [J U<|N ss] false]) hg bY45 Z Z Y)<|mn<|sO<|mV Z<|mV (v:=J U<|N ss) (Hy Z)<|x1 Z<|bM ?_;refine jT (σ:=Nat) (τ:=Unit) (λi=>⟨.al [(0,aP 0 0),(11,aR 1<|ss.map S),(12,J U<|N ss),(13,J U i)],Hl es hv bk (N ss) (iI<|N ss/256^1)<|Ad 2 (N ss)++(ss.take i).flatMap dcB,28⟩) (λi=>i≤N ss) (λi=>N ss-i) 0 0 (λ_=>⟨.al [],Hl es hv bk (N ss) (iI<|N ss/256^1)<|Ia ss,28⟩) (λ_=>True) (Ap Z bY60<|sb4 Z Z Z Z<|(((sbN)))) (hZ _) ?_ ?_
 ·rintro i hi;have hi:i≤N ss:=hi;by_cases hlt:i<N ss
  ·have hb:N (Ad 2 (N ss)++(ss.take i).flatMap dcB)+(2+N (ss.getD i []))≤1000000:=by have q:=fm_le (f:=dcB) [] hlt;grind[dcB,Ak,Ia]
   have hb2:N (Ad 2 (N ss)++(ss.take i).flatMap dcB++Ad 2 (N<|ss.getD i []))+N (ss.getD i [])≤1000000:=RZ;refine sO<|mT Z<|mn<|sq<|cT Z<|kM<|sq<|bM<|sO<|mS (v:=aE (S<|ss.getD i []) 0) (Dn Z Z Z hlt)<|mV (v:=S<|ss.getD i []) Z<|x1 Z<|sO<|m3 Z Z Z<|mV (v:=aH 1 7 0 1<|some 1) Z<|mC Z (Ym (w:=2) (n:=N<|ss.getD i []) (H:=Hl es hv bk (N ss) (iI<|N ss/256^1) (Ad 2 (N ss)++(ss.take i).flatMap dcB)++[C 3 [J U<|N<|ss.getD i []] false]) hg bY45 Z Z Z V Y Y)<|mn ?_;refine jU (s1:=⟨.al [(0,aP 0 0),(11,aR 1<|ss.map S),(12,J U<|N ss),(13,J U i),(5,S<|ss.getD i [])],Hl es hv bk (N ss) (iI<|N ss/256^1) (Ad 2 (N ss)++(ss.take i).flatMap dcB++Ad 2 (N<|ss.getD i []))++[C 3 [J U<|N<|ss.getD i []] false],28⟩) (Ap Z Z<|sb4 Z Z Z Z<|(((sbC Z<|sbN)))) ?_;refine oM<|m4 Z Z Z Z<|mC Z (wsU (k:=(ss.getD i [])) (id:=0) (jd:=6) (H:=Hl es hv bk (N ss) (iI<|N ss/256^1) (Ad 2 (N ss)++(ss.take i).flatMap dcB++Ad 2 (N<|ss.getD i []))++[C 3 [J U<|N<|ss.getD i []] false]) hg (hne i hlt) Z Z hb2)<|mn<|oM ?_;refine mFz (s1:=⟨.al [(0,aP 0 0),(11,aR 1<|ss.map S),(12,J U<|N ss),(13,J U i)],Hl es hv bk (N ss) (iI<|N ss/256^1)<|Ad 2 (N ss)++(ss.take i).flatMap dcB++Ad 2 (N<|ss.getD i [])++(ss.getD i []),28⟩) (As 7 Z (aO Z) Z (NG hhv hbk V)<|fzC Z (Ji V)<|fzC Z (Aq<|Cf _)<|fI<|fI fzN) ?_;refine mI ((i+1:Nat):Int) Z<|x1 Z ?_;exact⟨(i+1),(Y:i+1≤N ss),Y,Ap Z (by grind[L9,dcB])<|sb4 Z Z Z Z<|(((sbN)))⟩
  ·have he:i=N ss:=by omega
   refine sO<|mF Z<|mn<|sq<|cF Z<|iN ?_;exact .inl ⟨Z,(),O,Ap Z (by rw[he,lL];rfl)<|sbN⟩
 ·rintro _ s' hJ hs;exact(A6 (rs:=[]) (vs:=[]) O Z Z hs.H.symm:Ja [] 4 (aU []) (Hl es hv bk (N ss) (iI<|N ss/256^1)<|Ia ss) .normal s')
theorem dictF (hg:hGr W0 G){es:List (Bz×Int)}{bk:List AVal}{ss:List Bz}(hbk:∀n,A8 n bk=true)(hne:∀i,i<N ss→ss.getD i []≠[])(hl:N (Ia ss)≤1000000):cP W0 48 [aP 0 0,aG bk,aP 2 0] [C 109 [.nilPtr,aN,.mref 1] false,.mp es,C 49 [aR 1<|ss.map S] false] (aU []) (Hl es [aR 1<|ss.map S] bk (N ss) (iI<|N ss/256^1)<|Ia ss):=by refine goM 48 8 ?_;refine sO<|mV (v:=aP 3 0) Z<|mn<|oM<|m2 Z Z<|mC Z (dictP hg (λn=>by show cond (A8 n<|ss.map S) true false=true;rw[show ss.map S=Ce ss from Z,Cf];rfl) hbk hne hl)<|mn ?_;exact⟨O,[],Z,.inl ⟨Z,Z⟩⟩
theorem NJ {s:Bz}{i:Nat}(h:i<N s):Qd (s.take<|i+1)=(Qd (s.take i)*257+(s.getD i 0).toNat+1)%4294967291:=by rw[lK h,eZ,gGe h,Qd,List.foldl_append];rfl
theorem BD (s:Bz):Qd s<4294967291:=by
 have:∀(s:Bz) (h:Nat),h<4294967291→s.foldl (λh b=>(h*257+b.toNat+1)%4294967291) h<4294967291:=by intro s;induction s with|nil=>intro h hh;exact hh|cons b r ih=>intro h _;exact ih _<|Nat.mod_lt _ V
 exact this s 1 V
theorem JI (es:List<|Bz×Int)(k:Bz):Ih es k=((Qh es k 0).map (·.2)).getD 0:=by grind[Ih]
theorem SE (es:List<|Bz×Int)(k:Bz):Ih es k=0∨∃p∈es,p.2=Ih es k:=by
 rw[JI];generalize (0:Nat)=n;induction es generalizing n with
 |nil=>exact .inl rfl
 |cons p r ih=>
  simp only[Qh];cases decide (k=p.1)with
  |true=>exact .inr ⟨p,B4,rfl⟩
  |false=>
   rcases ih (n+1)with h|⟨q,hq,h⟩;·exact .inl h
   ·grind
def esN (ss:List Bz):Nat→List (Bz×Int)
 |0=>[]|i+1=>Ku (esN ss i) (ss.getD i []) ((i:Nat):Int)
theorem EO {es:List (Bz×Int)}{k:Bz}{v:Int}{p:Bz×Int}(h:p∈Ku es k v):p∈es∨p=(k,v):=by grind[Ku]
theorem GO {ss:List Bz}:∀{i:Nat}{p:Bz×Int},p∈esN ss i→∃j:Nat,j<i∧p.2=(j:Nat)
 |0,_,h=>Hq
 |i+1,p,h=>by
  rcases EO h with h|rfl;·obtain⟨j,hj,e⟩:=GO h;grind
  grind
def ixN (ss:List Bz)(q:Bz):Nat:=(Ih (esN ss<|N ss) q).toNat
theorem R4 {ss:List Bz}(q:Bz):Ih (esN ss<|N ss) q=(ixN ss q:Nat)∧(ixN ss q=0∨ixN ss q<N ss):=by grind[ixN,SE,GO]
theorem sumP (hg:hGr W0 G){s:Bz}(hl:N s≤4611686018427387904):cP W0 12 [S s] [] (J U<|Qd s) []:=by
 refine goM 12 21 ?_;refine iO<|iM hg<|Ac hg gN Z Z O<|Bg<|iO<|iM hg<|Ac hg gN Z Z O<|Bg<|iO<|iO<|iM hg<|Ac hg gN Z Z O<|Ac hg gN Z Z O<|Ac hg gN Z Z O<|Bg<|ExM.block ?_;refine jT (σ:=Nat) (τ:=Unit) (λi=>⟨.al [(0,S s),(3,J U<|Qd<|s.take i),(6,J U<|N s),(7,J U i)],[],21⟩) (λi=>i≤N s) (λi=>N s-i) 0 0 (λ_=>⟨.al [(3,J U<|Qd s)],[],21⟩) (λ_=>True) (Ap Z Z<|sb4 Z Z Z Z<|(((sbN)))) (hZ _) ?_ ?_
 ·rintro i hi;have hi:i≤N s:=hi;by_cases hlt:i<N s;·have hb:=BD<|s.take i;have hc:=(s.getD i 0).toNat_lt;refine sO<|mT Z<|mn<|sq<|cT Z<|kM<|sq<|bM<|sO<|x2 Z Z<|oM<|mV Z<|mI ((Qd (s.take i)*257:Nat):Int) Z<|m2 Z Z<|Ac hg gN (v:=J .u8<|(s.getD i 0).toNat) Z Z K7<|mK (v:=J U<|(s.getD i 0).toNat) Z (Bw Y Y Z)<|mI ((Qd (s.take i)*257+(s.getD i 0).toNat:Nat):Int) Z<|mI ((Qd (s.take i)*257+(s.getD i 0).toNat+1:Nat):Int) Z<|mKv hg gN (v:=J U<|Qd<|s.take<|i+1) Z Z (by simp_all[Ah]) (by rw[NJ hlt];grind)<|x1 Z<|oM<|mI ((i+1:Nat):Int) Z<|x1 Z ?_;exact⟨(i+1),(Y:i+1≤N s),Y,Ap Z Z<|sb4 Z Z Z Z<|(((sbN)))⟩
  ·have he:i=N s:=by omega
   rw[he,lL];refine sO<|mF Z<|mn<|sq<|cF Z ?_;exact iN<|.inl ⟨Z,(),O,Ap Z Z<|sbC Z<|sbN⟩
 ·rintro _ s' hJ hs;refine jU hs ?_;refine sO<|x2 Z Z ?_;exact iL<|pS
theorem strU {H:Hz}{id jd:Nat}{T TB:TypeId}{c0:AVal}{r:List AVal}{l:Bz}{n:Nat}{cp:Option Nat}(ho:H[id]?=some (C T (c0::aH 1 jd 0 n cp::r) false))(hj:H[jd]?=some (C TB (u8c l) true))(hn:n=N l)(h0:l≠[])(hTB:DJ TB=5):
 cP W0 56 [aP id 0] H (S l) (H.set jd<|C (tgT TB) (u8c l) true):=strP Tryz.lays169 Tryz.Builder_Extra_169 (F2 Ar) ho hj hn h0 hTB
def shT (s:PSh):List Bz:=s.nm::s.cs.map (·.s)
def Ej (l:List PSh):List Bz:=l.flatMap shT
def Qk (l:List Bz):List Bz:=l.mergeSort λx y=>decide<|x≤y
theorem K3 {α β:Type}{f:α→List β}{l:List α}{i:Nat}(d:α)(h:i<N l):(l.take<|i+1).flatMap f=(l.take i).flatMap f++f (l.getD i d):=by grind[lK]
theorem IV {α β:Type}{f:α→List β}{l:List α}{i:Nat}(d:α)(h:i<N l):N ((l.take i).flatMap f)+N (f<|l.getD i d)≤N (l.flatMap f):=by have h1:=congrArg N<|K3 (f:=f) d h;grind[bX]
theorem mp_take {cs:List PCl}{j:Nat}(h:j<N cs):(cs.take<|j+1).map (·.s)=(cs.take j).map (·.s)++[(cs.getD j pc0).s]:=by grind[lK]
theorem Xx (d:Array Bz)(m:Nat):N (gI d m)≤m:=by grind[gI]
theorem L8 :∀(l:List Bz) (x:List AVal),Da 1 (N l) (Ce l++x)=Ce l
 | [],_=>rfl|d::l,x=>by show(cond (aA 1 1) (cond (S d).one (S d) _) _)::Da 1 (N l) (Ce l++x)=_;rw[L8 l];rfl
theorem UX {H:Hz}{id:Nat}{T:TypeId}{l p:List Bz}{c:Option Nat}(ho:H[id]?=some (C T (Ce<|l++p) false)):∃m,frz H 0 m (aH 1 id 0 (N l) c)=some (aR 1<|l.map S):=by obtain⟨k,hk⟩:=Ir (H:=H) (n:=0) (Ce l)<|Cf l;refine⟨k+1,?_⟩;have h1:bB id 0=false:=BK (by omega);have h3:=L8 l<|Ce p;rw[show Ce l++Ce p=Ce (l++p)from by simp[Ce]]at h3;simp only[frz,h1,cond_false,ho,List.drop_zero,h3,hk k<|bC _];rfl
theorem SG {shs:List PSh}{i:Nat}(h:i<N shs):Ej (shs.take<|i+1)=Ej (shs.take i)++[(shs.getD i ps0).nm]++(shs.getD i ps0).cs.map (·.s):=by rw[Ej,K3 ps0 h,cE];rfl
def Xf (i:Nat)(l:Bz):Bz:=Ad 1 (i+1)++(Ad 4 (N l)++(l++Ad 4 (Qd l)))
def D6 (bd:Nat→Bz):Nat→Bz
 |0=>[]|i+1=>D6 bd i++Xf i (bd i)
theorem FN {i:Nat}{l:Bz}:N (Xf i l)=9+N l:=by grind[Xf,Ak]
def E8 :Bz:=[84,66,76,49]
def O6 (bd:Nat→Bz):Bz:=E8++D6 bd 5
def fnL :List AVal:=[.fn 48 [] [aP 1 0],.fn 50 [] [],.fn 51 [] [],.fn 52 [] [],.fn 53 [] []]
def f6 (es:List<|Bz×Int)(bk hv:List AVal)(ol:Bz):Hz:=[C 31 bk false,C 49 hv false,.mp es,C 109 [aP 3 0,aH 1 4 0 (N ol) none,.nilMp] false,C 5 (u8c ol) true,C 116 fnL false]
def f7 (es:List<|Bz×Int)(bk hv:List AVal)(ol:Bz):Hz:=f6 es bk hv ol++[C 109 [.nilPtr,aN,.mref 2] false]
def f11 (es:List<|Bz×Int)(bk hv:List AVal)(ol:Bz)(n0:Nat)(b0:UInt8)(T:TypeId)(l:Bz):Hz:=f6 es bk hv ol++[C 109 [aP 6 0,aH 1 10 0 (N l) none,.mref 2] false,C 31 bk false,C 3 (Bm [n0]) false,C 5 [J .u8 (b0.toNat:Nat)] false,C T (u8c l) true]
theorem QP {n:Nat}(h:2≤n):A8 n fnL=true:=by simp_all[bB,fnL,A8,blw]
theorem QU {es:List (Bz×Int)}{bk hv:List AVal}{ol:Bz}{n:Nat}(hbk:∀n,A8 n bk=true)(hhv:∀n,A8 n hv=true)(h:5≤n):B7 n (f6 es bk hv ol)=true:=by have h3:bB 3 n=true:=Uk Y;have h4:bB 4 n=true:=Uk Y;simp only[f6,B7,A8,blw,hbk,hhv,Ci,QP (show 2≤n by omega),h3,h4,cond_true]
theorem AX {es:List (Bz×Int)}{bk hv:List AVal}{ol:Bz}{n0:Nat}{b0:UInt8}{T:TypeId}{l:Bz}{n:Nat}(hbk:∀n,A8 n bk=true)(hhv:∀n,A8 n hv=true)(h:11≤n):B7 n (f11 es bk hv ol n0 b0 T l)=true:=by have h2:bB 2 n=true:=Uk Y;have h6:bB 6 n=true:=Uk Y;have h10:bB 10 n=true:=Uk Y;exact Fv (QU hbk hhv Y) (by simp_all[B7,A8,blw,Bc,Ci])
def rhoS :Nat→Nat
 |0=>6|1=>2|j+2=>7+j
def rhoD :Nat→Nat
 |0=>6|1=>2|2=>1|j+3=>7+j
theorem KV {f:Nat}{es:List (Bz×Int)}{bk hv:List AVal}{ol:Bz}{n0:Nat}{b0:UInt8}{l:Bz}(hbk:∀n,A8 n bk=true)(hc:cP W0 f [aP 0 0,aG bk] [C 109 [.nilPtr,aN,.mref 1] false,.mp es] (aU [])<|wbH es bk n0 b0 l):
 cP W0 f [aP 6 0,aG bk] (f7 es bk hv ol) (aU []) (f11 es bk hv ol n0 b0 5 l):=by
 have hs:Sel [6,2] 2 [C 109 [.nilPtr,aN,.mref 1] false,.mp es] (f7 es bk hv ol) rhoS:=by
  refine⟨V,Z,Z,λj hj=>?_,λi hi=>?_,λj o ho=>?_⟩;·match j,hj with|0,_=>rfl|1,_=>rfl
  ·have:i=6∨i=2:=by grind
   rcases this with rfl|rfl<;>(show _<7;decide)
  ·match j,ho with|0,ho=>simp only[eV,iS]at ho;subst ho;rfl|1,ho=>simp only[eT,eV,iS]at ho;subst ho;rfl|j+2,ho=>simp at ho
 have h:=A5.renG (H:=f7 es bk hv ol) (H0:=[C 109 [.nilPtr,aN,.mref 1] false,.mp es]) [6,2] rhoS hs Z (by show cond (A8 2 bk) true false=true;grind) (by show 2≤6;decide) (λj h1 h2=>by match j,h1 with|j+2,_=>show 7+j=7+(j+2-2);omega) hc;have e1:F9 rhoS bk=bk:=Bv bk<|hbk 0;have e2:F9 rhoS (u8c l)=u8c l:=Bv _<|Ci l;have e3:F9 rhoS (Bm [n0])=Bm [n0]:=rfl;have e4:F9 rhoS [aP 0 0,aG bk]=[aP 6 0,aG bk]:=by simp only[F9,Abs.ren,e1];rfl
 rw[e4]at h;have e5:Ei ([6,2]++gB (N<|f7 es bk hv ol) (N (wbH es bk n0 b0 l)-2)) ((wbH es bk n0 b0 l).map<|G7 rhoS) (f7 es bk hv ol++fH (N (wbH es bk n0 b0 l)-2) .dead)=f11 es bk hv ol n0 b0 5 l:=by simp only[wbH,List.map,G7,e1,e2,e3];rfl
 exact(show Ei ([6,2]++gB (N<|f7 es bk hv ol) (N (wbH es bk n0 b0 l)-2)) ((wbH es bk n0 b0 l).map<|G7 rhoS) (f7 es bk hv ol++fH (N (wbH es bk n0 b0 l)-2) .dead)=_ from e5)▸h
theorem liftD {f:Nat}{es:List (Bz×Int)}{bk hv:List AVal}{ol:Bz}{n0:Nat}{b0:UInt8}{l:Bz}(hbk:∀n,A8 n bk=true)(hhv:∀n,A8 n hv=true)(hc:cP W0 f [aP 0 0,aG bk,aP 2 0] [C 109 [.nilPtr,aN,.mref 1] false,.mp es,C 49 hv false] (aU [])<|Hl es hv bk n0 b0 l):
 cP W0 f [aP 6 0,aG bk,aP 1 0] (f7 es bk hv ol) (aU []) (f11 es bk hv ol n0 b0 5 l):=by
 have e6:F9 rhoD hv=hv:=Bv hv<|hhv 0;have hs:Sel [6,2,1] 3 [C 109 [.nilPtr,aN,.mref 1] false,.mp es,C 49 hv false] (f7 es bk hv ol) rhoD:=by
  refine⟨V,Z,Z,λj hj=>?_,λi hi=>?_,λj o ho=>?_⟩;·match j,hj with|0,_=>rfl|1,_=>rfl|2,_=>rfl
  ·have:i=6∨i=2∨i=1:=by grind
   rcases this with rfl|rfl|rfl<;>(show _<7;decide)
  ·match j,ho with|0,ho=>simp only[eV,iS]at ho;subst ho;rfl|1,ho=>simp only[eT,eV,iS]at ho;subst ho;rfl|2,ho=>simp only[eT,eV,iS]at ho;subst ho;rw[G7,e6];rfl|j+3,ho=>simp at ho
 have h:=A5.renG (H:=f7 es bk hv ol) (H0:=[C 109 [.nilPtr,aN,.mref 1] false,.mp es,C 49 hv false]) [6,2,1] rhoD hs (by show cond (A8 3 hv) true false=true;grind) (by show cond (A8 3 bk) true false=true;grind) (by show 3≤7;decide) (λj h1 h2=>by match j,h1 with|j+3,_=>show 7+j=7+(j+3-3);omega) hc;have e1:F9 rhoD bk=bk:=Bv bk<|hbk 0;have e2:F9 rhoD (u8c l)=u8c l:=Bv _<|Ci l;have e3:F9 rhoD (Bm [n0])=Bm [n0]:=rfl;have e4:F9 rhoD [aP 0 0,aG bk,aP 2 0]=[aP 6 0,aG bk,aP 1 0]:=by simp only[F9,Abs.ren,e1];rfl
 rw[e4]at h;have e5:Ei ([6,2,1]++gB (N<|f7 es bk hv ol) (N (Hl es hv bk n0 b0 l)-3)) ((Hl es hv bk n0 b0 l).map<|G7 rhoD) (f7 es bk hv ol++fH (N (Hl es hv bk n0 b0 l)-3) .dead)=f11 es bk hv ol n0 b0 5 l:=by simp only[Hl,List.map,G7,e1,e2,e3,e6];rfl
 exact(show Ei ([6,2,1]++gB (N<|f7 es bk hv ol) (N (Hl es hv bk n0 b0 l)-3)) ((Hl es hv bk n0 b0 l).map<|G7 rhoD) (f7 es bk hv ol++fH (N (Hl es hv bk n0 b0 l)-3) .dead)=_ from e5)▸h
theorem fvM {H:Hz}{n id:Nat}(h:id<n:=by decide):FzV H n (.mref id) (.mref id):=.inl ⟨1,TG⟩
theorem fileG (hg:hGr W0 G){k0 k1 k2 k3:AVal}{T:List Bz}{bd:Nat→Bz}(hbk:∀n,A8 n [k0,k1,k2,k3]=true)(htl:N T≤999999)(htx:cP W0 46 [aG [k0,k1,k2,k3]] [] (aR 1<|T.map S) [])(hsz:∀i,i<5→N (E8++D6 bd (i+1))≤900000)
 (hB:∀i,i<5→∃f caps n0 b0,C3 1 false fnL i=some (.fn f [] caps)∧bd i≠[]∧∀ol,cP W0 f ([aP 6 0,aG [k0,k1,k2,k3]]++caps) (f7 (esN T<|N T) [k0,k1,k2,k3] [aR 1<|T.map S] ol) (aU [])<|f11 (esN T<|N T) [k0,k1,k2,k3] [aR 1<|T.map S] ol n0 b0 5<|bd i):
 cP W0 19 [aG [k0,k1,k2,k3]] [] (S<|O6 bd) []:=by
 have hhv:∀n,A8 n [aR 1<|T.map S]=true:=λn=>by show cond (A8 n<|Ce T) true false=true;rw[Cf];rfl
 have hA:A8 0 [aG [k0,k1,k2,k3]]=true:=by show cond (A8 0 [k0,k1,k2,k3]) true false=true;grind
 have hBv:blw 0 (aR 1<|T.map S)=true:=Cf _;refine goM 19 68 ?_;refine sO<|mV (v:=aP 0 0) Z<|x1 Z<|sO<|mV (v:=aG [k0,k1,k2,k3]) Z<|mC Z (hO hA hBv htx _)<|mV (v:=aP 1 0) Z<|Ai hg gN Z<|mn<|sO<|mV (v:=.mref 2) Z<|x1 Z<|sq<|sO<|mV (v:=aR 1<|T.map S) Z<|mV (v:=J U<|N T) (Hy Z)<|x1 Z<|bM ?_;refine jT (σ:=Nat) (τ:=Unit) (λi=>⟨.al [(1,aP 0 0),(3,aP 1 0),(4,.mref 2),(14,aR 1<|T.map S),(15,J U<|N T),(16,J U i)],[C 31 [k0,k1,k2,k3] false,C 49 [aR 1<|T.map S] false,HObj.mp<|esN T i],68⟩) (λi=>i≤N T) (λi=>N T-i) 0 0 (λ_=>⟨.al [(1,aP 0 0),(3,aP 1 0),(4,.mref 2)],[C 31 [k0,k1,k2,k3] false,C 49 [aR 1<|T.map S] false,HObj.mp<|esN T<|N T],68⟩) (λ_=>True) (Ap Z Z<|sb4 Z Z Z Z<|(((sbC Z<|sbC Z<|sbN)))) (hZ _) ?_ ?_
 ·rintro i hi;have hi:i≤N T:=hi;by_cases hlt:i<N T;·refine sO<|mT Z<|mn<|sq<|cT Z<|kM<|sq<|bM<|sO<|mV Z<|mS (v:=aE (S<|T.getD i []) 0) (Dn Z Z Z hlt)<|mV (v:=S<|T.getD i []) Z<|x2 Z Z<|oM<|m3 Z Z Z<|Ai hg gN Z<|mn<|oM<|mI ((i+1:Nat):Int) Z<|x1 Z ?_;exact⟨(i+1),(Y:i+1≤N T),Y,Ap Z Z<|sb4 Z Z Z Z<|(((sbC Z<|sbC Z<|sbN)))⟩
  ·have he:i=N T:=by omega
   rw[he];refine sO<|mF Z<|mn<|sq<|cF Z ?_;exact iN<|.inl ⟨Z,(),O,Ap Z Z<|sbC Z<|sbC Z<|sbC Z<|sbN⟩
 ·rintro _ s' hJ hs;refine jU hs ?_;refine sO<|mV (v:=aP 3 0) Z<|mn<|sO<|mV Z<|mC Z (wsF (id:=3) (k:=E8) (at_:=.nilMp) (H:=[C 31 [k0,k1,k2,k3] false,C 49 [aR 1<|T.map S] false,HObj.mp<|esN T<|N T]++[C 109 [.nilPtr,aN,.nilMp] false]) hg V Z V)<|mn<|sq<|sO<|mV Z<|mV (v:=aH 1 5 0 5<|some 5) Z<|x2 Z Z<|bM ?_;refine jT (σ:=Nat) (τ:=Unit) (λi=>⟨.al [(1,aP 0 0),(4,.mref 2),(7,aP 3 0),(28,aH 1 5 0 5<|some 5),(29,J U 5),(30,J U i)],f6 (esN T<|N T) [k0,k1,k2,k3] [aR 1<|T.map S]<|E8++D6 bd i,68⟩) (λi=>i≤5) (λi=>5-i) 0 2 (λ_=>⟨.al [(7,aP 3 0)],f6 (esN T<|N T) [k0,k1,k2,k3] [aR 1<|T.map S]<|E8++D6 bd 5,68⟩) (λ_=>True) (Ap Z Z<|sb4 Z Z Z Z<|(((sbC Z<|sbC Z<|sbN)))) (hZ _) ?_ ?_
  ·rintro i hi;have hi:i≤5:=hi;by_cases hlt:i<5
   ·obtain⟨f,caps,n0,b0,hrd,hne,hcall⟩:=hB i hlt;have hb:N (E8++D6 bd i)+(9+N (bd i))≤900000:=by grind[D6,FN]
    have hb2:N (E8++D6 bd i++Ad 1 (i+1))+4≤1000000:=RZ;have hb3:N (E8++D6 bd i++Ad 1 (i+1)++Ad 4 (N<|bd i))+N (bd i)≤1000000:=by grind[Ak]
    have hb4:N (E8++D6 bd i++Ad 1 (i+1)++Ad 4 (N<|bd i)++bd i)+4≤1000000:=by grind[Ak]
    have hsm:=BD<|bd i;refine sO<|mT Z<|mn<|sq<|cT Z<|kM<|sq<|bM<|sO<|mV Z<|mS (v:=aP 5 i) (MS Z Z Z)<|mV (v:=.fn f [] caps) (O9 Z Z hrd)<|x2 Z Z<|sO<|m2 Z Z<|mV (v:=aP 6 0) Z<|x1 Z<|sq ?_;refine jU (s1:=⟨.al [(1,aP 0 0),(4,.mref 2),(7,aP 3 0),(28,aH 1 5 0 5<|some 5),(29,J U 5),(30,J U i),(8,J U i),(9,.fn f [] caps),(10,aP 6 0)],f7 (esN T<|N T) [k0,k1,k2,k3] [aR 1<|T.map S]<|E8++D6 bd i,68⟩) (Ap Z Z<|sb4 Z Z Z Z<|(((sb4 Z Z Z Z<|(((sbC Z<|sbN))))))) ?_;refine oM<|m2 Z Z<|mV (v:=aG [k0,k1,k2,k3]) Z<|mC Z (hcall _)<|mn<|sq ?_;refine jU (s1:=⟨.al [(1,aP 0 0),(4,.mref 2),(7,aP 3 0),(28,aH 1 5 0 5<|some 5),(29,J U 5),(30,J U i),(8,J U i),(9,.fn f [] caps),(10,aP 6 0)],f11 (esN T<|N T) [k0,k1,k2,k3] [aR 1<|T.map S] (E8++D6 bd i) n0 b0 5<|bd i,68⟩) (Ap Z Z<|sb4 Z Z Z Z<|(((sb4 Z Z Z Z<|(((sbC Z<|sbN))))))) ?_;refine oM<|mV Z<|mI ((i+1:Nat):Int) Z<|mV (v:=aH 1 11 0 1<|some 1) Z<|mC Z (Ym (id:=3) (jd:=4) (w:=1) (n:=i+1) (H:=f11 (esN T<|N T) [k0,k1,k2,k3] [aR 1<|T.map S] (E8++D6 bd i) n0 b0 5 (bd i)++[C 3 [J U (i+1:Nat)] false]) hg (Fv (AX hbk hhv<|aO Z) Z) Z Z Z V Y Y)<|mn<|sq ?_;refine jU (s1:=⟨.al [(1,aP 0 0),(4,.mref 2),(7,aP 3 0),(28,aH 1 5 0 5<|some 5),(29,J U 5),(30,J U i),(8,J U i),(9,.fn f [] caps),(10,aP 6 0)],f11 (esN T<|N T) [k0,k1,k2,k3] [aR 1<|T.map S] (E8++D6 bd i++Ad 1 (i+1)) n0 b0 5 (bd i)++[C 3 [J U (i+1:Nat)] false],68⟩) (Ap Z Z<|sb4 Z Z Z Z<|(((sb4 Z Z Z Z<|(((sbC Z<|sbN))))))) ?_;refine oM<|m3 Z Z Z<|mC Z (lenU (id:=6) (jd:=10) (l:=bd i) hg Z)<|mV (v:=aH 1 12 0 1<|some 1) Z<|mC Z (Ym (id:=3) (jd:=4) (w:=4) (n:=N<|bd i) (H:=f11 (esN T<|N T) [k0,k1,k2,k3] [aR 1<|T.map S] (E8++D6 bd i++Ad 1 (i+1)) n0 b0 5 (bd i)++[C 3 [J U (i+1:Nat)] false,C 3 [J U<|N<|bd i] false]) hg (Fv (AX hbk hhv<|aO Z) Z) Z Z Z V hb2 Y)<|mn<|sq ?_;refine jU (s1:=⟨.al [(1,aP 0 0),(4,.mref 2),(7,aP 3 0),(28,aH 1 5 0 5<|some 5),(29,J U 5),(30,J U i),(8,J U i),(9,.fn f [] caps),(10,aP 6 0)],f11 (esN T<|N T) [k0,k1,k2,k3] [aR 1<|T.map S] (E8++D6 bd i++Ad 1 (i+1)++Ad 4 (N<|bd i)) n0 b0 5 (bd i)++[C 3 [J U (i+1:Nat)] false,C 3 [J U<|N<|bd i] false],68⟩) (Ap Z Z<|sb4 Z Z Z Z<|(((sb4 Z Z Z Z<|(((sbC Z<|sbN))))))) ?_;refine oM<|m4 Z Z Z Z<|mC Z (strU (id:=6) (jd:=10) (TB:=5) (l:=bd i) (H:=f11 (esN T<|N T) [k0,k1,k2,k3] [aR 1<|T.map S] (E8++D6 bd i++Ad 1 (i+1)++Ad 4 (N<|bd i)) n0 b0 5 (bd i)++[C 3 [J U (i+1:Nat)] false,C 3 [J U<|N<|bd i] false]) Z Z Z hne Z)<|mC Z (wsU (id:=3) (jd:=4) (k:=bd i) (H:=f11 (esN T<|N T) [k0,k1,k2,k3] [aR 1<|T.map S] (E8++D6 bd i++Ad 1 (i+1)++Ad 4 (N<|bd i)) n0 b0 (tgT 5) (bd i)++[C 3 [J U (i+1:Nat)] false,C 3 [J U<|N<|bd i] false]) hg hne Z Z hb3)<|mn ?_;refine jU (s1:=⟨.al [(1,aP 0 0),(4,.mref 2),(7,aP 3 0),(28,aH 1 5 0 5<|some 5),(29,J U 5),(30,J U i),(8,J U i),(9,.fn f [] caps),(10,aP 6 0)],f11 (esN T<|N T) [k0,k1,k2,k3] [aR 1<|T.map S] (E8++D6 bd i++Ad 1 (i+1)++Ad 4 (N<|bd i)++bd i) n0 b0 (tgT 5) (bd i)++[C 3 [J U (i+1:Nat)] false,C 3 [J U<|N<|bd i] false],68⟩) (Ap Z Z<|sb4 Z Z Z Z<|(((sb4 Z Z Z Z<|(((sbC Z<|sbN))))))) ?_;refine oM<|m3 Z Z Z<|mC Z (strU (id:=6) (jd:=10) (TB:=tgT 5) (l:=bd i) (H:=f11 (esN T<|N T) [k0,k1,k2,k3] [aR 1<|T.map S] (E8++D6 bd i++Ad 1 (i+1)++Ad 4 (N<|bd i)++bd i) n0 b0 (tgT 5) (bd i)++[C 3 [J U (i+1:Nat)] false,C 3 [J U<|N<|bd i] false]) Z Z Z hne Z)<|mC Z (hO Z Z (sumP hg Y) _)<|mV (v:=aH 1 13 0 1<|some 1) Z<|mC Z (Ym (id:=3) (jd:=4) (w:=4) (n:=Qd<|bd i) (H:=f11 (esN T<|N T) [k0,k1,k2,k3] [aR 1<|T.map S] (E8++D6 bd i++Ad 1 (i+1)++Ad 4 (N<|bd i)++bd i) n0 b0 (tgT<|tgT 5) (bd i)++[C 3 [J U (i+1:Nat)] false,C 3 [J U<|N<|bd i] false,C 3 [J U<|Qd<|bd i] false]) hg (Fv (AX hbk hhv<|aO Z) Z) Z Z Z V hb4 Y)<|mn<|oM ?_;refine mFz (s1:=⟨.al [(1,aP 0 0),(4,.mref 2),(7,aP 3 0),(28,aH 1 5 0 5<|some 5),(29,J U 5),(30,J U i)],f6 (esN T<|N T) [k0,k1,k2,k3] [aR 1<|T.map S]<|E8++D6 bd i++Ad 1 (i+1)++Ad 4 (N<|bd i)++bd i++Ad 4 (Qd<|bd i),68⟩) (As 6 Z (hZ _) Z (QU hbk hhv V)<|fzC Z (Ji V)<|fzC Z fvM<|fzC Z (Ji V)<|fzC Z (fvHx V)<|fI<|fI fzN) ?_;refine mI ((i+1:Nat):Int) Z<|x1 Z ?_;exact⟨(i+1),(Y:i+1≤5),Y,Ap Z (by simp only[D6,Xf,cE])<|sb4 Z Z Z Z<|(((sbC Z<|sbC Z<|sbN)))⟩
   ·have he:i=5:=by omega
    rw[he];refine sO<|mF Z<|mn<|sq<|cF Z ?_;exact iN<|.inl ⟨Z,(),O,Ap Z Z<|sbC Z<|sbN⟩
  ·rintro _ s' hJ hs;refine jU hs ?_;refine sO<|mV Z<|mC Z (strU (id:=3) (jd:=4) (TB:=5) (l:=E8++D6 bd 5) Z Z Z (by simp[E8]) Z)<|x1 Z ?_;exact iL<|pL
section
variable {es : List (Bz × Int)} {bk : List AVal} {n0 : Nat} {b0 : UInt8} {l : Bz} {X : Hz} {k : Nat} {cp : Option Nat}
theorem wbX (hbk:∀n,A8 n bk=true)(hX:∀n,6≤n→B7 n X=true):B7 (N<|wbH es bk n0 b0 l++X) (wbH es bk n0 b0 l++X)=true:=
 have h:6≤N (wbH es bk n0 b0 l++X):=by simp[wbH]
 Fv (LW hbk h) (hX _ h)
theorem wbG {o:HObj}(h:X[k]?=some o):(wbH es bk n0 b0 l++X)[6+k]?=some o:=by grind[wbH]
theorem RW (hg:hGr W0 G){ns:List Nat}(hbk:∀n,A8 n bk=true)(hX:∀n,6≤n→B7 n X=true)(hs:X[k]?=some (C 3 (Bm ns) false))(hl:N l+N ns≤1000000)(hn:∀i,ns.getD i 0<9223372036854775808):cP W0 54 [aP 0 0,J U 1,aH 1 (6+k) 0 (N ns) cp] (wbH es bk n0 b0 l++X) (aU []) (wbH es bk n0 b0 (l++Dz 1 ns)++X):=putU (w:=1) (id:=0) (jd:=5) (at_:=.mref 1) (l:=l) hg (wbX hbk hX) rfl rfl (wbG hs) V Y Y hn
theorem LU (hg:hGr W0 G){ix:Bz→Nat}{ss:List Bz}(hbk:∀n,A8 n bk=true)(hX:∀n,6≤n→B7 n X=true)(hs:X[k]?=some (C 9 (Ce ss) false))(hl:N l+N ss*2≤1000000)(hix:∀i,i<N ss→Ih es (ss.getD i [])=(ix (ss.getD i []):Nat))(hixb:∀s,ix s<9223372036854775808):cP W0 88 [aP 0 0,aH 1 (6+k) 0 (N ss) cp] (wbH es bk n0 b0 l++X) (aU []) (wbH es bk n0 b0 (l++txB ix ss)++X):=textU (id:=0) (jd:=5) (md:=1) (l:=l) hg (wbX hbk hX) rfl rfl (wbG hs) rfl hl hix hixb
end
end Go.Abs
namespace Go.Abs
open Go.Proofs Go.RowKit
set_option maxRecDepth 10000000
variable {W0 : World}
theorem pk17 (hk:Kn W0){s1 s101:Bz}{a0 a1 a2 c1 r1:Int}{fc1 fr1:Bool}(h1:oC W0 38 [N12 s1 r1 c1 fr1 fc1]<|I true)(h2:oC W0 111 [S [50]]<|N37)(h3:oC W0 126 [S s101]<|N14 s1 r1 c1 fr1 fc1):cP W0 167 [N98 s101 a0 a1 a2] [] (N99 s1 r1 c1 fr1 fc1) []:=C9 hk Oe (ss0 29 [(true,101),(true,42)] 27 [] [(N14 s1 r1 c1 fr1 fc1,none),(I true,none),(N37,none),(I true,none)] []) Ar<|gdE ((s1==s1)&&((r1==r1)&&((c1==c1)&&((fr1==fr1)&&((fc1==fc1)&&((false==false)&&true)))))) true<|gdC h1<|gdC h2<|gdE ((s1==s1)&&((r1==r1)&&((c1==c1)&&((fr1==fr1)&&((fc1==fc1)&&((false==false)&&true)))))) true<|gdC h1<|gdC h3 gdN
theorem pt17 (hk:Kn W0){s1 s93 s101:Bz}{a0 a1 a2 c1 r1:Int}{fc1 fr1:Bool}(h1:oC W0 167 [N98 s101 a0 a1 a2]<|N99 s1 r1 c1 fr1 fc1)(h2:oC W0 166 [S s93]<|N100 s101 a0 a1 a2):cP W0 110 [S s93] [] (N99 s1 r1 c1 fr1 fc1) []:=C9 hk Og (ss0 2 [] 0 [] [(N100 s101 a0 a1 a2,none),(N99 s1 r1 c1 fr1 fc1,none)] []) Ar<|gdC h1<|gdC h2 gdN
theorem rfSA (hk:Kn W0):Be W0 [83,33,36,65,36,49] [83] 0 0 true true:=by have hrd:=clK hk (f:=126) (args:=[S [83,33,36,65,36,49]]) (v:=aU [aG [S [83],J U 0,J U 0,I true,I true,I false],J U 0]) Ar Z Z;have hrt:=clK hk (f:=38) (args:=[aG [S [83],J U 0,J U 0,I true,I true,I false]]) (v:=I true) Ar Z Z;exact⟨R7 hk (b:=83) (w:=[]) (c:=[36,65,36,49]) V V V ⟨_,_,_,_,_,_,_,hrd,Z⟩,B4,V,V,B4,hrd,hrt⟩
def bd17 (p:Bz):Bz:=(p++(42::(50::[])))
theorem lx17 (hk:Kn W0){p:Bz}{sp:Bz}{rp cp:Int}{frp fcp:Bool}(hp:Be W0 p sp rp cp frp fcp)(ha:asc (bd17 p)=true)(hl:N (bd17 p)≤1000000):Lx W0 (bd17 p) 0 [⟨5,p,0⟩,⟨8,[42],(0+N p)⟩,⟨1,[50],((0+N p)+1)⟩]:=by have a0:=At.zero ha hl;have a1:=At.step (w:=p) a0;have a2:=At.step (w:=[42]) a1;have a3:=At.step (w:=[50]) a2;exact Fp hp.lex hp.len hp.h32 a0 Z<|Ax hk (k:=9) a1 Z Z<|Lp hk (dgR<|DS hk) Z Z a2 Z Z<|Lx.end a3
theorem goodN1 (hk:Kn W0):Qm W0 [61,65,50,42,50]:=by have hp:=NI hk (cl:=0) (rw:=1) V V;exact gF (u:=bd17 [cB 0,dB 1]) rfl V (pt17 hk (pk17 hk hp.right (DS hk).2.2 hp.rd)<|G5 (grK hk) (lx17 hk hp V V) (λe=>by cases e) V) rfl rfl rfl
end Go.Abs
namespace Go.Abs
open Go.Proofs Go.RowKit
set_option maxRecDepth 100000
variable {W0 : World} {G : List (Nat × AVal)}
section
variable {P : Program} {l : List (Nat × AVal)} {H : Hz} {n : Nat} {K : St → Prop} {r : List AOper} {d : Nat} {op : AOp}
theorem vQK {v v0:AVal}(h:aop G ⟨.al l,H,n⟩ op=some (.val v0 H []))(hv:v0=v)(k:By P W0 G r ⟨.al ((d,v)::l),H,n⟩ K)(hd:(Nat.blt d n&&Nat.blt d 4094)=true:=by with_unfolding_all rfl):By P W0 G (⟨some d,none,op⟩::r) ⟨.al l,H,n⟩ K:=by subst hv;exact Ao h hd trivial k
end
structure ArOK (a b c d e:Int):Prop where
 a0:0≤a
 a1:a<8
 b0:0≤b
 b1:b<200
 c0:0≤c
 c1:c<52
 d0:1≤d
 d1:b+d≤200
 e0:1≤e
 e1:c+e≤52
theorem rightA (hg:hGr W0 G){a b c d e:Int}(h:ArOK a b c d e):cP W0 194 [aG [J U a,J U b,J U c,J U d,J U e]] [] (I true) []:=by obtain⟨a0,a1,b0,b1,c0,c1,d0,d1,e0,e1⟩:=h;refine goW 194 57 0 ?_;exact We
theorem condS {c:Bool}{k:IntKind}{x:Int}:J k (cond c x x)=J k x:=by grind
theorem condI {c:Bool}{x:Int}:(bif c then x else x)=x:=by grind
theorem meetA (hg:hGr W0 G){a b c d e:Int}(h:ArOK a b c d e):∃l,N l=5∧l.all fW=true∧A8 0 l=true∧cP W0 131 [aG [J U a,J U b,J U c,J U d,J U e],aG [J U a,J U b,J U c,J U d,J U e]] [] (aU [aG l,I true]) []:=by have hr:=λH=>hO (W0:=W0) (P:=gH) Z Z (rightA hg h) H;obtain⟨a0,a1,b0,b1,c0,c1,d0,d1,e0,e1⟩:=h;refine⟨[J U a,J U b,J U c,J U<|(b+d)-b,J U<|(c+e)-c],Z,Z,Z,?_⟩;refine goW 131 76 0 ?_;refine Wm ?_;refine mF Z ?_ (hb:=by simp);refine Wm ?_;refine kD ?_;refine vQ Z<|vQ Z<|vQ Z<|vQ Z<|vQK (v:=J U b) Z condS<|vQ Z<|vQ Z<|vQ Z<|vQ Z<|vQK (v:=J U c) Z condS<|vQ Z<|vQ Z<|nQ ?_;refine Wm ?_;refine mK (v:=J U<|(b+d)-b) Z (by rw[condI];grind[Bw]) ?_;refine Wm ?_;refine mK (v:=J U<|(c+e)-c) Z (by rw[condI];grind[Bw]) ?_;exact We
theorem SI (hg:hGr W0 G){a b c d e:Int}(h:ArOK a b c d e):cP W0 82 [aG [J U a,J U b,J U c,J U d,J U e]] [] (I true) []:=by obtain⟨l,h1,h2,h3,hm⟩:=meetA hg h;have hM:=λH=>hO (W0:=W0) (P:=gH) Z bY74 hm H;refine goW 82 12 0 ?_;refine Wm ?_;refine vSt Z Z Z h1 Z h2 Z ?_;exact We
theorem HZ (hg:hGr W0 G){l:List AVal}{x y z:AVal}{k:Int}(hk:0≤k)(hl:k<N l):cP W0 77 [aG [aR 2 l,x,y,z],J U k] [] (I true) []:=by refine goW 77 14 0 ?_;exact We
theorem ruleA (hg:hGr W0 G){l:List AVal}{x y z:AVal}{r:PRl}(hw:A8 0 [aG [aR 2 l,x,y,z],J U r.a]=true)(hf:Qm W0 r.f)(ha:ArOK r.a r.b r.c r.d r.e)(hl:r.a<N l)(hs:r.h=true∧r.g=0∨r.h=false∧1≤r.g∧r.g≤99):cP W0 45 [aG [aR 2 l,x,y,z],rlV r] [] (I true) []:=by
 obtain⟨nd,h1,h2,h3,hF⟩:=foP hg hf;have hF':=λH=>hO (W0:=W0) (P:=gH) Z bY205 hF H;have hW:=λH=>hO (W0:=W0) (P:=gH) Z Z (SI hg ha) H;have hS:=λH=>hO (W0:=W0) (P:=gH) hw Z (HZ hg (x:=x) (y:=y) (z:=z) ha.a0 hl) H;obtain⟨a,b,c,d,e,f,g,h⟩:=r;refine goW 45 51 0 ?_;refine Wm ?_;refine vSt Z Z Z h1 Z h2 Z ?_;simp only at hs;rcases hs with⟨rfl,rfl⟩|⟨rfl,q1,q2⟩;·exact We
 ·exact We
section
variable {o0 o2 : HObj}
theorem cl79 (hg:hGr W0 G)(hb:B7 3 [o0,C 48 [S [111,119,110],J U 0,S [61,65,50,42,50]] false,o2]=true):cP W0 80 [aG [S [82,97,116,101],J U<|-1,S [61,83,33,36,65,36,49,43,49]],aP 1 0] [o0,C 48 [S [111,119,110],J U 0,S [61,65,50,42,50]] false,o2] (I false) [o0,C 48 [S [111,119,110],J U 0,S [61,65,50,42,50]] false,o2]:=by refine goW 80 18 3 ?_;refine Wm ?_;refine kD ?_;refine vQ Z<|vQ Z<|vQ Z<|vQ Z<|vQK (v:=I false) Z Z<|vQ Z<|qGN Z Z<|qGN Z Z<|qGN Z Z<|qGN Z Z<|qGN Z Z<|qGN Z Z<|qGN Z Z<|vQ Z<|vQ Z<|nQ ?_;refine Wm ?_;exact A4 O Z hb 100 Z Z
theorem ix116 (hg:hGr W0 G)(hb:B7 3 [o0,C 48 [S [111,119,110],J U 0,S [61,65,50,42,50]] false,o2]=true):cP W0 128 [aR 3 [aG [S [82,97,116,101],J U<|-1,S [61,83,33,36,65,36,49,43,49]]],.fn 80 [] [aP 1 0]] [o0,C 48 [S [111,119,110],J U 0,S [61,65,50,42,50]] false,o2] (J U<|-1) [o0,C 48 [S [111,119,110],J U 0,S [61,65,50,42,50]] false,o2]:=by have hc:=cl79 hg hb;refine goW 128 19 3 ?_;refine Wm ?_;refine lO 2 ?_;refine Wm ?_;refine mS Z ?_;refine Wm ?_;refine uN ?_;refine Wm ?_;refine uE ?_;refine kJ ?_;refine Wm ?_;exact pS
theorem cf78 (hg:hGr W0 G)(hb:B7 3 [o0,C 48 [S [111,119,110],J U 0,S [61,65,50,42,50]] false,o2]=true):cP W0 79 [aR 3 [aG [S [82,97,116,101],J U<|-1,S [61,83,33,36,65,36,49,43,49]]],.fn 80 [] [aP 1 0]] [o0,C 48 [S [111,119,110],J U 0,S [61,65,50,42,50]] false,o2] (I false) [o0,C 48 [S [111,119,110],J U 0,S [61,65,50,42,50]] false,o2]:=by have hc:=ix116 hg hb;refine goW 79 9 3 ?_;refine Wm ?_;exact pS
end
abbrev Ww :List AVal:=[aG [S [82,97,116,101],J U<|-1,S [61,83,33,36,65,36,49,43,49]],aG [S [111,119,110],J U 0,S [61,65,50,42,50]]]
theorem name75a (hk:Kn W0):cP W0 76 [S [82,97,116,101]] [] (I true) []:=cK hk
theorem name75b (hk:Kn W0):cP W0 76 [S [111,119,110]] [] (I true) []:=cK hk
theorem named1 (hk:Kn W0){l tl rl:List AVal}(hl:0<N l)(hb:A8 0 [aR 2 l,aR 3 Ww,aR 6 tl,aR 8 rl]=true):cP W0 43 [aG [aR 2 l,aR 3 Ww,aR 6 tl,aR 8 rl],J U 1] [] (I true) []:=by
 have hg:=grK hk;obtain⟨nd,h1,h2,h3,hF⟩:=foP hg<|goodN1 hk;have hF':=λH=>hO (W0:=W0) (P:=gH) Z bY205 hF H;have hN:=λH=>hO (W0:=W0) (P:=gH) Z Z (name75b hk) H;have hS:=λH=>hO (W0:=W0) (P:=gH) (by show cond (A8 0 [aR 2 l,aR 3 Ww,aR 6 tl,aR 8 rl]) true false=true;rw[hb];rfl) Z (HZ hg (l:=l) (x:=aR 3 Ww) (y:=aR 6 tl) (z:=aR 8 rl) (k:=0) V Y) H;refine goW 43 55 0 ?_;refine Wm ?_;refine mS (v:=aE (aG [S [111,119,110],J U 0,S [61,65,50,42,50]]) 0) Z ?_;refine Wm ?_;refine vSt Z Z Z h1 Z h2 Z ?_;refine Wm ?_;refine mS (v:=aR 3 [aG [S [82,97,116,101],J U<|-1,S [61,83,33,36,65,36,49,43,49]]]) Z ?_;refine Wm ?_;have hb3:B7 3 [C 31 [aR 2 l,aR 3 Ww,aR 6 tl,aR 8 rl] false,C 48 [S [111,119,110],J U 0,S [61,65,50,42,50]] false,C 140 nd false]=true:=by have e1:=Dv (n:=0) (k:=3) V _ hb;have e2:=Dv (n:=0) (k:=3) V _ h3;show cond (A8 3 [aR 2 l,aR 3 Ww,aR 6 tl,aR 8 rl]) (cond true (cond (A8 3 nd) true false) false) false=true;grind
 refine mC Z (cf78 (o0:=C 31 [aR 2 l,aR 3 Ww,aR 6 tl,aR 8 rl] false) (o2:=C 140 nd false) hg hb3) ?_;exact We
theorem foX (hg:hGr W0 G){u:Bz}{l:List AVal}(hl:N (61::u)≤200)(h1:N l=20)(h2:l.all fW=true)(h3:A8 0 l=true)(hr:cP W0 110 [S u] [] (aU [aG l,J U 0,J U 0]) []):cP W0 72 [S (61::u)] [] (aU [aG l,I true]) []:=by have hc:∀H,cP W0 109 [S (61::u),S [61]] H (aU [S u,I true]) H:=λH=>Ii;have hr':=λH=>hO (W0:=W0) (P:=gH) Z bY74 hr H;have hl':(N (61::u):Int)≤200:=Y;refine goW 72 31 0 ?_;refine Wm ?_;refine vSt Z Z Z h1 Z h2 Z ?_;refine Wm ?_;refine vLl Z Z h1 ?_;refine Wm ?_;refine vSt Z Z Z h1 Z h2 Z ?_;refine Wm ?_;obtain⟨k,hk⟩:=TJ (H:=[C 140 l false,C 140 l false]) (r:=[I true]) h3 rfl;exact A4 O (vs:=[aG l,I true]) (rvAgg Z Z h1 Z) Z k hk Z
theorem ix116e (hg:hGr W0 G){H:Hz}{f:AVal}(h3:N H=3):cP W0 128 [aR 3 [],f] H (J U<|-1) H:=by refine goW 128 19 3 ?_ (hm:=h3);refine Wm ?_;refine lO 1 ?_;refine Wm ?_;refine uE ?_;refine kJ ?_;refine Wm ?_;exact pS
theorem cf78e (hg:hGr W0 G){H:Hz}{f:AVal}(h3:N H=3):cP W0 79 [aR 3 [],f] H (I false) H:=by have hc:=ix116e hg (f:=f) h3;refine goW 79 9 3 ?_ (hm:=h3);refine Wm ?_;exact pS
theorem named0 (hk:Kn W0){l tl rl:List AVal}(hb:A8 0 [aR 2 l,aR 3 Ww,aR 6 tl,aR 8 rl]=true):cP W0 43 [aG [aR 2 l,aR 3 Ww,aR 6 tl,aR 8 rl],J U 0] [] (I true) []:=by have hg:=grK hk;have hF:=foX hg (u:=bd0 [83,33,36,65,36,49]) V Z Z Z<|rd0 hk (rfSA hk) V V;have hF':=λH=>hO (W0:=W0) (P:=gH) Z Z hF H;have hL:=λH=>hO (W0:=W0) (P:=gH) Z Z (clK hk (f:=78) (args:=[aG [J U 9,S [43],J U 0,J U 0,I false,J U 0,S [],J U 0,J U 0,I false,I false,I false,S [],J U 0,J U 0,I false,I false,I false,J U 0,aR 20 [aG [J U 5,S [],J U 0,J U 0,I false,J U 0,S [83],J U 0,J U 0,I true,I true,I false,S [],J U 0,J U 0,I false,I false,I false,J U 0,aN],aG [J U 1,S [],J U 1,J U 0,I false,J U 0,S [],J U 0,J U 0,I false,I false,I false,S [],J U 0,J U 0,I false,I false,I false,J U 0,aN]]]]) (v:=I false) Ar Z Z) H;have hN:=λH=>hO (W0:=W0) (P:=gH) Z Z (name75a hk) H;refine goW 43 55 0 ?_;refine Wm ?_;refine mS (v:=aE (aG [S [82,97,116,101],J U<|-1,S [61,83,33,36,65,36,49,43,49]]) 0) Z ?_;refine Wm ?_;refine mS (v:=aR 3 []) Z ?_;refine Wm ?_;refine mC Z (cf78e hg Z) ?_;exact We
theorem fold0 (hk:Kn W0):cP W0 71 [S [83]] [] (S [115]) []:=cK hk
theorem RE (hg:hGr W0 G){Cx:List AVal}:cP W0 40 [aG [S [83],aR 3 Cx]] [] (S [83]) []:=by refine goW 40 5 0 ?_;exact We
theorem UM (hk:Kn W0):cP W0 38 [aG [S [83],J U 0,J U 0,I false,I false,I false]] [] (I true) []:=cK hk
theorem fold1 (hk:Kn W0):cP W0 71 [S [84,119,111,32,120]] [] (S [116,119,111,32,120]) []:=cK hk
theorem nm39_1 (hg:hGr W0 G){Cx:List AVal}:cP W0 40 [aG [S [84,119,111,32,120],aR 3 Cx]] [] (S [84,119,111,32,120]) []:=by refine goW 40 5 0 ?_;exact We
theorem SA (hk:Kn W0):cP W0 38 [aG [S [84,119,111,32,120],J U 0,J U 0,I false,I false,I false]] [] (I true) []:=cK hk
theorem fold2 (hk:Kn W0):cP W0 71 [S [116,104,105,114,100]] [] (S [116,104,105,114,100]) []:=cK hk
theorem QR (hk:Kn W0):cP W0 38 [aG [S [116,104,105,114,100],J U 0,J U 0,I false,I false,I false]] [] (I true) []:=cK hk
theorem cl69_10 (hk:Kn W0){Cx:List AVal}(hC:A8 0 Cx=true):cP W0 70 [aG [S [83],aR 3 Cx],aP 1 0,aP 0 0] [C 9 [S [84,119,111,32,120]] false,C 97 [.fn 40 [] []] false] (I false) [C 9 [S [84,119,111,32,120]] false,C 97 [.fn 40 [] []] false]:=by
 have hg:=grK hk;have hb:A8 0 [aG [S [83],aR 3 Cx]]=true:=by grind[A8,blw]
 have hn:=λH=>hO (W0:=W0) (P:=gH) hb Z (RE hg (Cx:=Cx)) H;have h1:=λH=>hO (W0:=W0) (P:=gH) Z Z (fold0 hk) H;have h2:=λH=>hO (W0:=W0) (P:=gH) Z Z (fold1 hk) H;refine goW 70 12 2 ?_;refine Wm ?_;refine kD ?_;refine vQ Z<|vQ Z<|Cd Z Z (hn _)<|Cd Z Z (h1 _)<|vQ Z<|Cd Z Z (h2 _)<|vQ Z<|vQ Z<|nQ ?_;refine Wm ?_;exact pL
theorem cl69_20 (hk:Kn W0){Cx:List AVal}(hC:A8 0 Cx=true):cP W0 70 [aG [S [83],aR 3 Cx],aP 1 0,aP 0 0] [C 9 [S [116,104,105,114,100]] false,C 97 [.fn 40 [] []] false] (I false) [C 9 [S [116,104,105,114,100]] false,C 97 [.fn 40 [] []] false]:=by
 have hg:=grK hk;have hb:A8 0 [aG [S [83],aR 3 Cx]]=true:=by grind[A8,blw]
 have hn:=λH=>hO (W0:=W0) (P:=gH) hb Z (RE hg (Cx:=Cx)) H;have h1:=λH=>hO (W0:=W0) (P:=gH) Z Z (fold0 hk) H;have h2:=λH=>hO (W0:=W0) (P:=gH) Z Z (fold2 hk) H;refine goW 70 12 2 ?_;refine Wm ?_;refine kD ?_;refine vQ Z<|vQ Z<|Cd Z Z (hn _)<|Cd Z Z (h1 _)<|vQ Z<|Cd Z Z (h2 _)<|vQ Z<|vQ Z<|nQ ?_;refine Wm ?_;exact pL
theorem cl69_21 (hk:Kn W0){Cx:List AVal}(hC:A8 0 Cx=true):cP W0 70 [aG [S [84,119,111,32,120],aR 3 Cx],aP 1 0,aP 0 0] [C 9 [S [116,104,105,114,100]] false,C 97 [.fn 40 [] []] false] (I false) [C 9 [S [116,104,105,114,100]] false,C 97 [.fn 40 [] []] false]:=by
 have hg:=grK hk;have hb:A8 0 [aG [S [84,119,111,32,120],aR 3 Cx]]=true:=by grind[A8,blw]
 have hn:=λH=>hO (W0:=W0) (P:=gH) hb Z (nm39_1 hg (Cx:=Cx)) H;have h1:=λH=>hO (W0:=W0) (P:=gH) Z Z (fold1 hk) H;have h2:=λH=>hO (W0:=W0) (P:=gH) Z Z (fold2 hk) H;refine goW 70 12 2 ?_;refine Wm ?_;refine kD ?_;refine vQ Z<|vQ Z<|Cd Z Z (hn _)<|Cd Z Z (h1 _)<|vQ Z<|Cd Z Z (h2 _)<|vQ Z<|vQ Z<|nQ ?_;refine Wm ?_;exact pL
theorem ix94_0 (hk:Kn W0):cP W0 106 [aR 2 [],.fn 70 [] [aP 1 0,aP 0 0]] [C 9 [S [83]] false,C 97 [.fn 40 [] []] false] (J U<|-1) [C 9 [S [83]] false,C 97 [.fn 40 [] []] false]:=by have hg:=grK hk;refine goW 106 19 2 ?_;refine Wm ?_;refine lO 1 ?_;refine Wm ?_;refine uE ?_;refine kJ ?_ (hj:=by simp_all);refine Wm ?_;exact pS
theorem cf68_0 (hk:Kn W0):cP W0 69 [aR 2 [],.fn 70 [] [aP 1 0,aP 0 0]] [C 9 [S [83]] false,C 97 [.fn 40 [] []] false] (I false) [C 9 [S [83]] false,C 97 [.fn 40 [] []] false]:=by have hg:=grK hk;have hc:=ix94_0 hk;refine goW 69 9 2 ?_;refine Wm ?_;exact pS
theorem tw38_0 (hk:Kn W0):cP W0 39 [aR 2 [],S [83],.fn 40 [] []] [] (I false) []:=by have hg:=grK hk;have hc:=cf68_0 hk;refine goW 39 10 0 ?_;exact We
theorem ix94_1 (hk:Kn W0){A:List AVal}(hA:A8 0 A=true):cP W0 106 [aR 2 [aG [S [83],aR 3 A]],.fn 70 [] [aP 1 0,aP 0 0]] [C 9 [S [84,119,111,32,120]] false,C 97 [.fn 40 [] []] false] (J U<|-1) [C 9 [S [84,119,111,32,120]] false,C 97 [.fn 40 [] []] false]:=by have hg:=grK hk;have c0:=cl69_10 hk hA;refine goW 106 19 2 ?_;refine Wm ?_;refine lO 2 ?_;refine Wm ?_;refine mS Z ?_;refine Wm ?_;refine uN ?_;refine Wm ?_;refine uE ?_;refine kJ ?_ (hj:=by simp_all);refine Wm ?_;exact pS
theorem cf68_1 (hk:Kn W0){A:List AVal}(hA:A8 0 A=true):cP W0 69 [aR 2 [aG [S [83],aR 3 A]],.fn 70 [] [aP 1 0,aP 0 0]] [C 9 [S [84,119,111,32,120]] false,C 97 [.fn 40 [] []] false] (I false) [C 9 [S [84,119,111,32,120]] false,C 97 [.fn 40 [] []] false]:=by have hg:=grK hk;have hc:=ix94_1 hk hA;refine goW 69 9 2 ?_;refine Wm ?_;exact pS
theorem tw38_1 (hk:Kn W0){A:List AVal}(hA:A8 0 A=true):cP W0 39 [aR 2 [aG [S [83],aR 3 A]],S [84,119,111,32,120],.fn 40 [] []] [] (I false) []:=by have hg:=grK hk;have hc:=cf68_1 hk hA;refine goW 39 10 0 ?_;exact We
theorem ix94_2 (hk:Kn W0){A:List AVal}(hA:A8 0 A=true){B:List AVal}(hB:A8 0 B=true):cP W0 106 [aR 2 [aG [S [83],aR 3 A],aG [S [84,119,111,32,120],aR 3 B]],.fn 70 [] [aP 1 0,aP 0 0]] [C 9 [S [116,104,105,114,100]] false,C 97 [.fn 40 [] []] false] (J U<|-1) [C 9 [S [116,104,105,114,100]] false,C 97 [.fn 40 [] []] false]:=by have hg:=grK hk;have c0:=cl69_20 hk hA;have c1:=cl69_21 hk hB;refine goW 106 19 2 ?_;refine Wm ?_;refine lO 3 ?_;refine Wm ?_;refine mS Z ?_;refine Wm ?_;refine uN ?_;refine Wm ?_;refine mS Z ?_;refine Wm ?_;refine uN ?_;refine Wm ?_;refine uE ?_;refine kJ ?_ (hj:=by simp_all);refine Wm ?_;exact pS
theorem cf68_2 (hk:Kn W0){A:List AVal}(hA:A8 0 A=true){B:List AVal}(hB:A8 0 B=true):cP W0 69 [aR 2 [aG [S [83],aR 3 A],aG [S [84,119,111,32,120],aR 3 B]],.fn 70 [] [aP 1 0,aP 0 0]] [C 9 [S [116,104,105,114,100]] false,C 97 [.fn 40 [] []] false] (I false) [C 9 [S [116,104,105,114,100]] false,C 97 [.fn 40 [] []] false]:=by have hg:=grK hk;have hc:=ix94_2 hk hA hB;refine goW 69 9 2 ?_;refine Wm ?_;exact pS
theorem tw38_2 (hk:Kn W0){A:List AVal}(hA:A8 0 A=true){B:List AVal}(hB:A8 0 B=true):cP W0 39 [aR 2 [aG [S [83],aR 3 A],aG [S [84,119,111,32,120],aR 3 B]],S [116,104,105,114,100],.fn 40 [] []] [] (I false) []:=by have hg:=grK hk;have hc:=cf68_2 hk hA hB;refine goW 39 10 0 ?_;exact We
abbrev TbC :List AVal:=[S [116,97,98],J U 0,J U 9,J U 1,J U 2,aR 1 [S [120],S [121,32,121]]]
theorem colA (hk:Kn W0):cP W0 81 [S [120]] [] (I true) []:=cK hk
theorem colB (hk:Kn W0):cP W0 81 [S [121,32,121]] [] (I true) []:=cK hk
theorem fldA (hk:Kn W0):cP W0 71 [S [120]] [] (S [120]) []:=cK hk
theorem fldB (hk:Kn W0):cP W0 71 [S [121,32,121]] [] (S [121,32,121]) []:=cK hk
theorem fldC (hk:Kn W0):cP W0 71 [S [116,97,98]] [] (S [116,97,98]) []:=cK hk
theorem fldD (hk:Kn W0):cP W0 71 [S [82,97,116,101]] [] (S [114,97,116,101]) []:=cK hk
theorem nameT (hk:Kn W0):cP W0 76 [S [116,97,98]] [] (I true) []:=cK hk
theorem areaT (hk:Kn W0):cP W0 83 [aG TbC] [] (aG [J U 0,J U 9,J U 1,J U 3,J U 2]) []:=cK hk
theorem twT (hk:Kn W0):cP W0 132 [aR 6 [],S [116,97,98],.fn 133 [] []] [] (I false) []:=cK hk
theorem ix179 (hg:hGr W0 G){H:Hz}{f:AVal}(h3:N H=2):cP W0 196 [aR 6 [],f] H (J U<|-1) H:=by refine goW 196 19 2 ?_ (hm:=h3);refine Wm ?_;refine lO 1 ?_;refine Wm ?_;refine uE ?_;refine kJ ?_ (hj:=by simp_all);refine Wm ?_;exact pS
theorem cf124 (hg:hGr W0 G){H:Hz}{f:AVal}(h3:N H=2):cP W0 136 [aR 6 [],f] H (I false) H:=by have hc:=ix179 hg (f:=f) h3;refine goW 136 9 2 ?_ (hm:=h3);refine Wm ?_;exact pS
section
variable {o0 : HObj}
theorem cl123a (hk:Kn W0)(hb:B7 2 [o0,C 51 TbC false]=true):cP W0 135 [aG [S [82,97,116,101],J U<|-1,S [61,83,33,36,65,36,49,43,49]],aP 1 0] [o0,C 51 TbC false] (I false) [o0,C 51 TbC false]:=by have hg:=grK hk;have h1:=λH=>hO (W0:=W0) (P:=gH) Z Z (fldC hk) H;have h2:=λH=>hO (W0:=W0) (P:=gH) Z Z (fldD hk) H;refine goW 135 16 2 ?_;refine Wm ?_;refine kD ?_;refine vQ Z<|vQ Z<|vQ Z<|vQ Z<|qGY Z<|vQ Z<|qGY Z<|vQ Z<|qGY Z<|Cd Z Z (h2 _)<|qGY Z<|vQ Z<|qGY Z<|vQ Z<|qGY Z<|Cd Z Z (h1 _)<|qGY Z<|vQ Z<|vQ Z<|vQ Z<|nQ ?_;refine Wm ?_;exact A4 O Z hb 100 Z Z
theorem cl123b (hk:Kn W0)(hb:B7 2 [o0,C 51 TbC false]=true):cP W0 135 [aG [S [111,119,110],J U 0,S [61,65,50,42,50]],aP 1 0] [o0,C 51 TbC false] (I false) [o0,C 51 TbC false]:=by have hg:=grK hk;refine goW 135 16 2 ?_;refine Wm ?_;refine kD ?_;refine vQ Z<|vQ Z<|vQ Z<|vQ Z<|qGN Z Z<|qGN Z Z<|qGN Z Z<|qGN Z Z<|qGN Z Z<|qGN Z Z<|qGN Z Z<|vQ Z<|vQ Z<|nQ ?_;refine Wm ?_;exact A4 O Z hb 100 Z Z
theorem ix116t (hk:Kn W0)(hb:B7 2 [o0,C 51 TbC false]=true):cP W0 128 [aR 3 Ww,.fn 135 [] [aP 1 0]] [o0,C 51 TbC false] (J U<|-1) [o0,C 51 TbC false]:=by have hg:=grK hk;have ha:=cl123a hk hb;have hc:=cl123b hk hb;refine goW 128 19 2 ?_;refine Wm ?_;refine lO 3 ?_;refine Wm ?_;refine mS Z ?_;refine Wm ?_;refine uN ?_;refine Wm ?_;refine mS Z ?_;refine Wm ?_;refine uN ?_;refine Wm ?_;refine uE ?_;refine kJ ?_ (hj:=by simp_all);refine Wm ?_;exact pS
theorem cf78t (hk:Kn W0)(hb:B7 2 [o0,C 51 TbC false]=true):cP W0 79 [aR 3 Ww,.fn 135 [] [aP 1 0]] [o0,C 51 TbC false] (I false) [o0,C 51 TbC false]:=by have hg:=grK hk;have hc:=ix116t hk hb;refine goW 79 9 2 ?_;refine Wm ?_;exact pS
theorem ix116n (hg:hGr W0 G){H:Hz}{f:AVal}(h3:N H=2):cP W0 128 [aR 3 [],f] H (J U<|-1) H:=by refine goW 128 19 2 ?_ (hm:=h3);refine Wm ?_;refine lO 1 ?_;refine Wm ?_;refine uE ?_;refine kJ ?_ (hj:=by simp_all);refine Wm ?_;exact pS
theorem cf78n (hg:hGr W0 G){H:Hz}{f:AVal}(h3:N H=2):cP W0 79 [aR 3 [],f] H (I false) H:=by have hc:=ix116n hg (f:=f) h3;refine goW 79 9 2 ?_ (hm:=h3);refine Wm ?_;exact pS
end
theorem blwT2 {a b:AVal}{r:List AVal}(h:A8 0 [a,b,aR 6 [aG TbC],aR 8 r]=true):B7 2 [C 31 [a,b,aR 6 [aG TbC],aR 8 r] false,C 51 TbC false]=true:=by have e1:=Dv (n:=0) (k:=2) V _ h;show cond (A8 2 [a,b,aR 6 [aG TbC],aR 8 r]) (cond true true false) false=true;rw[e1];rfl
theorem apartT (hk:Kn W0){b:Bool}{l rl:List AVal}(hb:A8 0 [aR 2 l,aR 3<|nlN b,aR 6 [aG TbC],aR 8 rl]=true):cP W0 84 [aG [aR 2 l,aR 3<|nlN b,aR 6 [aG TbC],aR 8 rl],J U 0] [] (I true) []:=by
 have hg:=grK hk;have h1:=λH=>hO (W0:=W0) (P:=gH) Z Z (twT hk) H;have h3:cP W0 79 [aR 3<|nlN b,.fn 135 [] [aP 1 0]] [C 31 [aR 2 l,aR 3<|nlN b,aR 6 [aG TbC],aR 8 rl] false,C 51 TbC false] (I false) [C 31 [aR 2 l,aR 3<|nlN b,aR 6 [aG TbC],aR 8 rl] false,C 51 TbC false]:=by have hq:=blwT2 hb;cases b with|true=>exact cf78t hk hq|false=>exact cf78n hg rfl
 refine goW 84 36 0 ?_;refine Wm ?_;refine mS (v:=aE (aG TbC) 0) Z ?_;refine Wm ?_;refine kD ?_;refine vQ Z<|vQ Z<|vQ Z<|Ao (v:=aR 6 []) Z Z (by repeat' (first|exact trivial|constructor|decide))<|vQ Z<|vQ Z<|Cd Z Z (h1 _)<|nQ ?_;refine Wm ?_;refine mS (v:=aR 6 []) Z ?_;refine Wm ?_;refine mC Z (cf124 hg Z) ?_;exact We
theorem tableT (hk:Kn W0){b:Bool}{l rl:List AVal}(hl:0<N l)(hb:A8 0 [aR 2 l,aR 3<|nlN b,aR 6 [aG TbC],aR 8 rl]=true):cP W0 44 [aG [aR 2 l,aR 3<|nlN b,aR 6 [aG TbC],aR 8 rl],J U 0] [] (I true) []:=by
 have hg:=grK hk;have hB:A8 0 [aG [aR 2 l,aR 3<|nlN b,aR 6 [aG TbC],aR 8 rl],J U 0]=true:=by show cond (A8 0 [aR 2 l,aR 3<|nlN b,aR 6 [aG TbC],aR 8 rl]) true false=true;rw[hb];rfl
 have c1:=λH=>hO (W0:=W0) (P:=gH) Z Z (colA hk) H;have c2:=λH=>hO (W0:=W0) (P:=gH) Z Z (colB hk) H;have c3:=λH=>hO (W0:=W0) (P:=gH) Z Z (fldA hk) H;have c4:=λH=>hO (W0:=W0) (P:=gH) Z Z (fldB hk) H;have c5:=λH=>hO (W0:=W0) (P:=gH) Z Z (nameT hk) H;have c6:=λH=>hO (W0:=W0) (P:=gH) Z Z (areaT hk) H;have c7:=λH=>hO (W0:=W0) (P:=gH) Z Z (SI hg (a:=0) (b:=9) (c:=1) (d:=3) (e:=2) ⟨V,V,V,V,V,V,V,V,V,V⟩) H;have c8:=λH=>hO (W0:=W0) (P:=gH) hB Z (apartT hk hb) H;have c9:=λH=>hO (W0:=W0) (P:=gH) hB Z (HZ hg (l:=l) (x:=aR 3<|nlN b) (y:=aR 6 [aG TbC]) (z:=aR 8 rl) (k:=0) V Y) H;refine goW 44 89 0 ?_;refine Wm ?_;refine mS (v:=aE (aG TbC) 0) Z ?_;refine Wm ?_;refine lO 2 ?_;refine Wm ?_;refine mS (v:=aE (S [120]) 0) Z ?_;refine Wm ?_;refine mS (v:=aR 1 []) Z ?_;refine Wm ?_;refine lO 1 ?_;refine Wm ?_;refine uE ?_;refine kJ ?_ (hj:=by simp_all);refine Wm ?_;refine mS (v:=J U 1) Z ?_;refine Wm ?_;refine uN ?_;refine Wm ?_;refine mS (v:=aE (S [121,32,121]) 0) Z ?_;refine Wm ?_;refine mS (v:=aR 1 [S [120]]) Z ?_;refine Wm ?_;refine lO 2 ?_;refine Wm ?_;refine mS (v:=aE (S [120]) 0) Z ?_;refine Wm ?_;refine uN ?_;refine Wm ?_;refine uE ?_;refine kJ ?_ (hj:=by simp_all);refine Wm ?_;refine mS (v:=J U 1) Z ?_;refine Wm ?_;refine uR ?_;exact We
theorem nmAt {n m:Nat}{shs:List PSh}(h:ShG W0 n m shs){i:Nat}(hi:i<n):(shs.getD i ps0).nm=ttl i:=by
 have hl:=h.len;have h1:(shs.map (·.nm))[i]?=some (ttl i):=by rw[h.ok.nm,OA,List.getElem?_map,List.getElem?_range hi];rfl
 grind
theorem getM {α:Type}{l:List α}{d:α}{i:Nat}(h:i<N l):l.getD i d∈l:=by grind
theorem nameB (hk:Kn W0){n m:Nat}{shs:List PSh}(hn:n≤3)(h:ShG W0 n m shs)(i:Nat)(hi:i<N shs):(shs.getD i ps0).nm≠[]∧cP W0 38 [aG [S (shs.getD i ps0).nm,J U 0,J U 0,I false,I false,I false]] [] (I true) []∧cP W0 39 [aR 2<|(shs.take i).map psV,S (shs.getD i ps0).nm,.fn 40 [] []] [] (I false) []:=by
 have hl:=h.len;have h0:=nmAt h (i:=i) Y;rw[h0]
 match i,hi with
 |0,_=>exact⟨V,UM hk,tw38_0 hk⟩|1,hi=>obtain⟨s0,r,rfl⟩:=lN (l:=shs) Y;have e0:s0.nm=[83]:=nmAt h (i:=0) Y;refine⟨V,SA hk,?_⟩;show cP W0 39 [aR 2 [aG [S s0.nm,aR 3<|s0.cs.map pcV]],_,_] [] _ [];rw[e0];exact tw38_1 hk<|B8 _
 |2,hi=>obtain⟨s0,r,rfl⟩:=lN (l:=shs) Y;obtain⟨s1,r,rfl⟩:=lN (l:=r) (by grind);have e0:s0.nm=[83]:=nmAt h (i:=0) Y;have e1:s1.nm=[84,119,111,32,120]:=nmAt h (i:=1) Y;refine⟨V,QR hk,?_⟩;show cP W0 39 [aR 2 [aG [S s0.nm,aR 3<|s0.cs.map pcV],aG [S s1.nm,aR 3<|s1.cs.map pcV]],_,_] [] _ [];rw[e0,e1];exact tw38_2 hk (B8 _)<|B8 _
 |i+3,hi=>omega
theorem blwNl {b:Bool}{n:Nat}:A8 n (nlN b)=true:=by cases b<;>rfl
theorem blwTl {b:Bool}{n:Nat}:A8 n (tlT b)=true:=by cases b<;>rfl
theorem checkB (hk:Kn W0){b:RB}{v:AVal}(h:LB W0 b v):cP W0 18 [v] [] (aU [aG z7L,J U 0]) []:=by
 obtain⟨n,shs,rs,hn,rfl,hS,h4,hR⟩:=h;have hg:=grK hk;have hl:=hS.len;have hw:A8 0 [aR 2<|shs.map psV,aR 3<|nlN b.nm,aR 6<|tlT b.tb,aR 8<|rs.map rlV]=true:=P0 (λ_=>blwNl)<|λ_=>blwTl;refine checkG hg (λ_=>blwNl) (λ_=>blwTl) Y Y (bI hS.many V) (by cases b.nm<;>decide) (by cases b.tb<;>decide) Y (nameB hk hn.2 hS) (λi hi j hj=>?_) (λi hi=>?_) (λi hi=>?_)<|λi hi=>?_;·have hm:=getM (d:=ps0) hi;obtain⟨c1,c2,c3⟩:=hS.ok.ok _ hm _<|getM (d:=pc0) hj;refine⟨Y,Y,inpG hk hg c3,λm e=>?_⟩;subst e;have hp:=hS.ok.pw _ hm;have:=List.pairwise_iff_getElem.mp hp m (m+1) Y hj Y;rw[eZ,gGe Y,eZ (i:=m+1),gGe hj];exact this
 ·revert hi hw;unfold wbV;cases b.nm with
  |false=>intro _ hi;exact absurd hi (by simp[nlN])
  |true=>
   intro hw hi
   match i,hi with|0,_=>exact named0 hk hw|1,_=>exact named1 hk Jo hw|i+2,hi=>grind[nlN]
 ·revert hi hw;unfold wbV;cases b.tb with
  |false=>intro _ hi;exact absurd hi (by simp[tlT])
  |true=>
   intro hw hi
   match i,hi with|0,_=>exact tableT hk Jo hw|i+1,hi=>grind[tlT]
 ·have hr:=hR _<|getM (d:=rl0) hi;obtain⟨a,b',c,d,e,f,g⟩:=hr;unfold wbV;exact ruleA hg (by show cond (A8 0 [aR 2<|shs.map psV,aR 3<|nlN b.nm,aR 6<|tlT b.tb,aR 8<|rs.map rlV]) true false=true;rw[hw];rfl) f ⟨Y,Y,Y,Y,Y,Y,Y,Y,Y,Y⟩ (by grind) g
def rbB (ix:Bz→Nat)(r:PRl):Bz:=Dz 1 [r.a.toNat,r.b.toNat,r.c.toNat,r.d.toNat,r.e.toNat]++(txB ix [r.f]++Dz 1 [r.g.toNat,cond r.h 1 0])
def Yv (ix:Bz→Nat)(n:Nat)(rs:List PRl):Bz:=Ad 1 n++rs.flatMap (rbB ix)
theorem CK {ix:Bz→Nat}(r:PRl):N (rbB ix r)=9:=by simp[rbB,Dz,Ad,txB]
theorem oneT {es:List (Bz×Int)}{ix:Bz→Nat}{q:Bz}(h:Ih es q=(ix q:Nat)):∀i,i<N [q]→Ih es ([q].getD i [])=(ix ([q].getD i []):Nat)
 |0,_=>h|i+1,hi=>by simp at hi
theorem rulesW (hg:hGr W0 G){es:List (Bz×Int)}{x y z:AVal}{rs:List PRl}{ix:Bz→Nat}(hbk:∀n,A8 n [x,y,z,aR 8<|rs.map rlV]=true)(h4:N rs≤20)(hr:∀i,i<N rs→(∃a b c d e g:Nat,(rs.getD i rl0).a=a∧(rs.getD i rl0).b=b∧(rs.getD i rl0).c=c∧(rs.getD i rl0).d=d∧(rs.getD i rl0).e=e∧(rs.getD i rl0).g=g∧a<1000∧b<1000∧c<1000∧d<1000∧e<1000∧g<1000)∧Ih es (rs.getD i rl0).f=(ix (rs.getD i rl0).f:Nat))(hixb:∀s,ix s<9223372036854775808):
 cP W0 53 [aP 0 0,aG [x,y,z,aR 8<|rs.map rlV]] [C 109 [.nilPtr,aN,.mref 1] false,.mp es] (aU []) (wbH es [x,y,z,aR 8<|rs.map rlV] (N<|rs.map rlV) (iI<|N (rs.map rlV)/256^0)<|Yv ix (N<|rs.map rlV) rs):=by
 have hlm:N (rs.map rlV)=N rs:=jY _;have hb4:B7 4 [C 109 [.nilPtr,aN,.mref 1] false,.mp es,C 31 [x,y,z,aR 8<|rs.map rlV] false,C 3 (Bm [N<|rs.map rlV]) false]=true:=by show cond true (cond (A8 4 [x,y,z,aR 8<|rs.map rlV]) (cond true true false) false) false=true;grind
 refine goW 53 52 2 ?_;refine Wm ?_;refine mS (v:=aH 1 3 0 1<|some 1) Z ?_;refine mC Z (GM hg hb4 Z Z Y) ?_;refine Wm ?_;refine jU (s1:=⟨.al [(0,aP 0 0),(3,aP 2 0),(14,aR 8<|rs.map rlV),(15,J U<|N<|rs.map rlV),(16,J U (0:Nat))],wbH es [x,y,z,aR 8<|rs.map rlV] (N<|rs.map rlV) (iI<|N (rs.map rlV)/256^0)<|Ad 1 (N<|rs.map rlV)++(rs.take 0).flatMap (rbB ix),52⟩) (Ap Z bY60<|sb4 Z Z Z Z<|(((sbC Z<|sbN)))) ?_;refine ExM.lpA (σ:=Nat) (λi=>⟨.al [(0,aP 0 0),(3,aP 2 0),(14,aR 8<|rs.map rlV),(15,J U<|N<|rs.map rlV),(16,J U i)],wbH es [x,y,z,aR 8<|rs.map rlV] (N<|rs.map rlV) (iI<|N (rs.map rlV)/256^0)<|Ad 1 (N<|rs.map rlV)++(rs.take i).flatMap (rbB ix),52⟩) (λi=>i≤N rs) (λi=>N rs-i) 0 ?_ (hZ _) ?_;·exact B6 6 (frC (frO<|flC (Af V)<|flC (D3 V)<|flC (fvM V) flN)<|frC Z<|frC (frS<|hbk _)<|frC (frS<|Bc _)<|frC (frS Z)<|frC (frS<|Ci _) frN)<|fzC Z (Af V)<|fzC Z (Af V)<|fzC Z (Aq (v:=aR 8<|rs.map rlV)<|Cj _)<|fI<|fI fzN
 ·intro i hi;by_cases hlt:i<N rs
  ·obtain⟨⟨a,b,c,d,e,g,ea,eb,ec,ed,ee,eg,la,lb,lc,ld,le,lg⟩,hix⟩:=hr i hlt;have hl0:N (Ad 1 (N<|rs.map rlV)++(rs.take i).flatMap (rbB ix))=1+N (rs.take i)*9:=by rw[lAp,Ee CK,Ak]
   have hl1:N (rs.take i)≤20:=by grind
   have e9:rbB ix (rs.getD i rl0)=Dz 1 [a,b,c,d,e]++(txB ix [(rs.getD i rl0).f]++Dz 1 [g,cond (rs.getD i rl0).h 1 0]):=by simp_all[rbB]
   have hv:rlV (rs.getD i rl0)=aG [J U (a:Nat),J U (b:Nat),J U (c:Nat),J U (d:Nat),J U (e:Nat),S (rs.getD i rl0).f,J U (g:Nat),I (rs.getD i rl0).h]:=by grind[rlV]
   have hi2:=Dn (f:=rlV) (l:=rs) (d:=rl0) (s:=⟨.al [(17,I true),(0,aP 0 0),(3,aP 2 0),(14,aR 8<|rs.map rlV),(15,J U<|N<|rs.map rlV),(16,J U i)],wbH es [x,y,z,aR 8<|rs.map rlV] (N<|rs.map rlV) (iI<|N (rs.map rlV)/256^0)<|Ad 1 (N<|rs.map rlV)++(rs.take i).flatMap (rbB ix),52⟩) (G:=G) (x:=.tmp 14) (i:=.tmp 16) (k:=8) Z Z Z hlt;rw[hv]at hi2;generalize (rs.getD i rl0).f=q at hi2 e9 hix;have e8:=L9 (f:=rbB ix) rl0 hlt;rw[e9]at e8;generalize (rs.getD i rl0).h=hh at hi2 e8;refine Wm ?_;refine mS hi2 ?_ (hs:=by simp only[Ah,and_true];omega);refine Wm ?_;refine mS (v:=aH 1 7 0 5<|some 5) Z ?_;refine mC Z (RW (k:=1) (X:=[C 64 [J U (a:Nat),J U (b:Nat),J U (c:Nat),J U (d:Nat),J U (e:Nat),S q,J U (g:Nat),I hh] false,C 3 (Bm [a,b,c,d,e]) false]) hg hbk (λ_ _=>Z) Z (by grind) (by grind)) ?_;refine Wm ?_;refine mS (v:=aH 1 8 0 1<|some 1) Z ?_;refine mC Z (LU (k:=2) (ss:=[q]) (ix:=ix) (X:=[C 64 [J U (a:Nat),J U (b:Nat),J U (c:Nat),J U (d:Nat),J U (e:Nat),S q,J U (g:Nat),I hh] false,C 3 (Bm [a,b,c,d,e]) false,C 9 (Ce [q]) false]) hg hbk (λ_ _=>Z) Z (by grind[Ie]) (oneT hix) hixb) ?_;refine Wm ?_;cases hh;·refine Wm ?_;refine mS (v:=aH 1 9 0 2<|some 2) Z ?_;refine mC Z (RW (k:=3) (ns:=[g,0]) (X:=[C 64 [J U (a:Nat),J U (b:Nat),J U (c:Nat),J U (d:Nat),J U (e:Nat),S q,J U (g:Nat),I false] false,C 3 (Bm [a,b,c,d,e]) false,C 9 (Ce [q]) false,C 3 (Bm [g,0]) false]) hg hbk (λ_ _=>Z) Z (by grind[Ie,Lc]) (by grind)) ?_;refine Wm ?_;refine haN (i+1) Y Y<|B6 6 (frC (frO<|flC (Af V)<|flC (Gy V (by grind))<|flC (fvM V) flN)<|frC Z<|frC (frS<|hbk _)<|frC (frS<|Bc _)<|frC (frS Z)<|frC (by grind[frS,Ci]) frN)<|fzC Z (Af V)<|fzC Z (Af V)<|fzC Z (Aq (v:=aR 8<|rs.map rlV)<|Cj _)<|fI<|fI fzN
   ·refine Wm ?_;refine mS (v:=aH 1 9 0 2<|some 2) Z ?_;refine mC Z (RW (k:=3) (ns:=[g,1]) (X:=[C 64 [J U (a:Nat),J U (b:Nat),J U (c:Nat),J U (d:Nat),J U (e:Nat),S q,J U (g:Nat),I true] false,C 3 (Bm [a,b,c,d,e]) false,C 9 (Ce [q]) false,C 3 (Bm [g,1]) false]) hg hbk (λ_ _=>Z) Z (by grind[Ie,Lc]) (by grind)) ?_;refine Wm ?_;refine haN (i+1) Y Y<|B6 6 (frC (frO<|flC (Af V)<|flC (Gy V (by grind))<|flC (fvM V) flN)<|frC Z<|frC (frS<|hbk _)<|frC (frS<|Bc _)<|frC (frS Z)<|frC (by grind[frS,Ci]) frN)<|fzC Z (Af V)<|fzC Z (Af V)<|fzC Z (Aq (v:=aR 8<|rs.map rlV)<|Cj _)<|fI<|fI fzN
  ·have he:i=N rs:=by omega
   refine Wm ?_;refine haE<|kJ ?_;rw[he,lL];exact pS
structure PNm where
 n:Bz
 a:Int
 f:Bz
def pn0 :PNm:=⟨[],0,[]⟩
def nmV (p:PNm):AVal:=aG [S p.n,J U p.a,S p.f]
theorem Ed {n:Nat}:∀(l:List PNm),A8 n (l.map nmV)=true
 | []=>rfl|p::r=>by show cond true (A8 n<|r.map nmV) false=true;rw[Ed r];rfl
def nmA (ix:Bz→Nat)(p:PNm):Bz:=txB ix [p.n]
def nmB (p:PNm):Bz:=Dz 1 [(p.a+1).toNat]
def nmC (ix:Bz→Nat)(p:PNm):Bz:=txB ix [p.f]
def W2 (ix:Bz→Nat)(n:Nat)(l:List PNm):Bz:=Ad 1 n++l.flatMap (nmA ix)++l.flatMap nmB++l.flatMap (nmC ix)
theorem W9 {ix:Bz→Nat}(p:PNm):N (nmA ix p)=2:=by simp[nmA,Ad,txB]
theorem Wj (p:PNm):N (nmB p)=1:=by simp[nmB,Dz,Ad]
theorem CD {ix:Bz→Nat}(p:PNm):N (nmC ix p)=2:=by simp[nmC,Ad,txB]
section
variable {es : List (Bz × Int)} {bk : List AVal} {n0 : Nat} {b0 : UInt8} {l l' : Bz} {X : Hz}
end
theorem namedW (hg:hGr W0 G){es:List (Bz×Int)}{x y z:AVal}{ns:List PNm}{ix:Bz→Nat}(hbk:∀n,A8 n [x,aR 3<|ns.map nmV,y,z]=true)(h4:N ns≤20)(hr:∀i,i<N ns→(∃s:Nat,(ns.getD i pn0).a+1=s∧s<1000)∧Ih es (ns.getD i pn0).n=(ix (ns.getD i pn0).n:Nat)∧Ih es (ns.getD i pn0).f=(ix (ns.getD i pn0).f:Nat))(hixb:∀s,ix s<9223372036854775808):
 cP W0 51 [aP 0 0,aG [x,aR 3<|ns.map nmV,y,z]] [C 109 [.nilPtr,aN,.mref 1] false,.mp es] (aU []) (wbH es [x,aR 3<|ns.map nmV,y,z] (N<|ns.map nmV) (iI<|N (ns.map nmV)/256^0)<|W2 ix (N<|ns.map nmV) ns):=by
 have hlm:N (ns.map nmV)=N ns:=jY _;have hb4:B7 4 [C 109 [.nilPtr,aN,.mref 1] false,.mp es,C 31 [x,aR 3<|ns.map nmV,y,z] false,C 3 (Bm [N<|ns.map nmV]) false]=true:=by show cond true (cond (A8 4 [x,aR 3<|ns.map nmV,y,z]) (cond true true false) false) false=true;grind
 have q0:N (Ad 1<|N<|ns.map nmV)=1:=Ak _ _;have q1:N ((Ad 1 (N<|ns.map nmV)++ns.flatMap (nmA ix)))=1+N ns*2:=by rw[lAp,Ee W9,q0]
 have q2:N (((Ad 1 (N<|ns.map nmV)++ns.flatMap (nmA ix))++ns.flatMap nmB))=1+N ns*2+N ns*1:=by rw[lAp,Ee Wj,q1]
 refine goW 51 56 2 ?_;refine Wm ?_;refine mS (v:=aH 1 3 0 1<|some 1) Z ?_;refine mC Z (GM hg hb4 Z Z Y) ?_;refine Wm ?_;refine jU (s1:=⟨.al [(0,aP 0 0),(3,aP 2 0),(17,aR 3<|ns.map nmV),(18,J U<|N<|ns.map nmV),(19,J U (0:Nat))],wbH es [x,aR 3<|ns.map nmV,y,z] (N<|ns.map nmV) (iI<|N (ns.map nmV)/256^0)<|Ad 1 (N<|ns.map nmV)++(ns.take 0).flatMap (nmA ix),56⟩) (Ap Z bY60<|sb4 Z Z Z Z<|(((sbC Z<|sbN)))) ?_;refine lZ (σ:=Nat) (τ:=Unit) (λi=>⟨.al [(0,aP 0 0),(3,aP 2 0),(17,aR 3<|ns.map nmV),(18,J U<|N<|ns.map nmV),(19,J U i)],wbH es [x,aR 3<|ns.map nmV,y,z] (N<|ns.map nmV) (iI<|N (ns.map nmV)/256^0)<|Ad 1 (N<|ns.map nmV)++(ns.take i).flatMap (nmA ix),56⟩) (λi=>i≤N ns) (λi=>N ns-i) 0 (λ_=>⟨.al [(0,aP 0 0),(3,aP 2 0)],wbH es [x,aR 3<|ns.map nmV,y,z] (N<|ns.map nmV) (iI<|N (ns.map nmV)/256^0)<|Ad 1 (N<|ns.map nmV)++ns.flatMap (nmA ix),56⟩) (λ_=>True) (B6 6 (frC (frO<|flC (Af V)<|flC (D3 V)<|flC (fvM V) flN)<|frC Z<|frC (frS<|hbk _)<|frC (frS<|Bc _)<|frC (frS Z)<|frC (frS<|Ci _) frN)<|fzC Z (Af V)<|fzC Z (Af V)<|fzC Z (Aq (v:=aR 3<|ns.map nmV)<|Ed _)<|fI<|fI fzN) (hZ _) ?_ ?_
 ·intro i hi;by_cases hlt:i<N ns
  ·obtain⟨⟨s,hs,ls⟩,ha,hf⟩:=hr i hlt;have hl0:N (Ad 1 (N<|ns.map nmV)++(ns.take i).flatMap (nmA ix))=1+N (ns.take i)*2:=by rw[lAp,Ee W9,q0]
   have hl1:N (ns.take i)≤20:=by grind
   have e8:=L9 (f:=(nmA ix)) pn0 hlt;have hi2:=Dn (f:=nmV) (l:=ns) (d:=pn0) (s:=⟨.al [(20,I true),(0,aP 0 0),(3,aP 2 0),(17,aR 3<|ns.map nmV),(18,J U<|N<|ns.map nmV),(19,J U i)],wbH es [x,aR 3<|ns.map nmV,y,z] (N<|ns.map nmV) (iI<|N (ns.map nmV)/256^0)<|Ad 1 (N<|ns.map nmV)++(ns.take i).flatMap (nmA ix),56⟩) (G:=G) (x:=.tmp 17) (i:=.tmp 19) (k:=3) Z Z Z hlt;rw[nmA]at e8;rw[nmV]at hi2;generalize ns.getD i pn0=p at hi2 e8 hs ha hf;refine Wm ?_;refine mS hi2 ?_ (hs:=by simp only[Ah,and_true];omega);refine Wm ?_;refine mS (v:=aH 1 7 0 1<|some 1) Z ?_;refine mC Z (LU (k:=1) (ss:=[p.n]) (ix:=ix) (X:=[C 48 [S p.n,J U p.a,S p.f] false,C 9 (Ce [p.n]) false]) hg hbk (λ_ _=>Z) Z (by grind) (oneT ha) hixb) ?_;refine Wm ?_;refine hoN (i+1) Y Y<|B6 6 (frC (frO<|flC (Af V)<|flC (Gy V (by grind))<|flC (fvM V) flN)<|frC Z<|frC (frS<|hbk _)<|frC (frS<|Bc _)<|frC (frS Z)<|frC (by grind[frS,Ci]) frN)<|fzC Z (Af V)<|fzC Z (Af V)<|fzC Z (Aq (v:=aR 3<|ns.map nmV)<|Ed _)<|fI<|fI fzN
  ·have he:i=N ns:=by omega
   refine Wm ?_;rw[he,lL];exact hoE () O<|B6 6 (frC (frO<|flC (Af V)<|flC (D3 V)<|flC (fvM V) flN)<|frC Z<|frC (frS<|hbk _)<|frC (frS<|Bc _)<|frC (frS Z)<|frC (frS<|Ci _) frN)<|fzC Z (Af V)<|fzC Z (Af V) fzN
 intro _ _;refine Wm ?_;refine lZ (σ:=Nat) (τ:=Unit) (λi=>⟨.al [(0,aP 0 0),(3,aP 2 0),(30,aR 3<|ns.map nmV),(31,J U<|N<|ns.map nmV),(32,J U i)],wbH es [x,aR 3<|ns.map nmV,y,z] (N<|ns.map nmV) (iI<|N (ns.map nmV)/256^0)<|(Ad 1 (N<|ns.map nmV)++ns.flatMap (nmA ix))++(ns.take i).flatMap nmB,56⟩) (λi=>i≤N ns) (λi=>N ns-i) 0 (λ_=>⟨.al [(0,aP 0 0),(3,aP 2 0)],wbH es [x,aR 3<|ns.map nmV,y,z] (N<|ns.map nmV) (iI<|N (ns.map nmV)/256^0)<|(Ad 1 (N<|ns.map nmV)++ns.flatMap (nmA ix))++ns.flatMap nmB,56⟩) (λ_=>True) (B6 6 (frC (frO<|flC (Af V)<|flC (Gy V B4)<|flC (fvM V) flN)<|frC Z<|frC (frS<|hbk _)<|frC (frS<|Bc _)<|frC (frS Z)<|frC bY157 frN)<|fzC Z (Af V)<|fzC Z (Af V)<|fzC Z (Aq (v:=aR 3<|ns.map nmV)<|Ed _)<|fI<|fI fzN) (hZ _) ?_ ?_
 ·intro i hi;by_cases hlt:i<N ns
  ·obtain⟨⟨s,hs,ls⟩,ha,hf⟩:=hr i hlt;have hl0:N ((Ad 1 (N<|ns.map nmV)++ns.flatMap (nmA ix))++(ns.take i).flatMap nmB)=(1+N ns*2)+N (ns.take i)*1:=by rw[lAp,Ee Wj,q1]
   have hl1:N (ns.take i)≤20:=by grind
   have e8:=L9 (f:=nmB) pn0 hlt;have hi2:=Dn (f:=nmV) (l:=ns) (d:=pn0) (s:=⟨.al [(33,I true),(0,aP 0 0),(3,aP 2 0),(30,aR 3<|ns.map nmV),(31,J U<|N<|ns.map nmV),(32,J U i)],wbH es [x,aR 3<|ns.map nmV,y,z] (N<|ns.map nmV) (iI<|N (ns.map nmV)/256^0)<|(Ad 1 (N<|ns.map nmV)++ns.flatMap (nmA ix))++(ns.take i).flatMap nmB,56⟩) (G:=G) (x:=.tmp 30) (i:=.tmp 32) (k:=3) Z Z Z hlt;rw[nmB]at e8;rw[nmV]at hi2;generalize ns.getD i pn0=p at hi2 e8 hs ha hf;refine Wm ?_;refine mS hi2 ?_ (hs:=by simp only[Ah,and_true];omega);refine Wm ?_;rw[hs];rw[hs]at e8;refine mS (v:=aH 1 7 0 1<|some 1) Z ?_;refine mC Z (RW (k:=1) (ns:=[s]) (X:=[C 48 [S p.n,J U p.a,S p.f] false,C 3 (Bm [s]) false]) hg hbk (λ_ _=>Z) Z (by grind) (by grind)) ?_;refine Wm ?_;refine hoN (i+1) Y Y<|B6 6 (frC (frO<|flC (Af V)<|flC (Gy V (by grind))<|flC (fvM V) flN)<|frC Z<|frC (frS<|hbk _)<|frC (frS<|Bc _)<|frC (frS Z)<|frC (by grind[frS,Ci]) frN)<|fzC Z (Af V)<|fzC Z (Af V)<|fzC Z (Aq (v:=aR 3<|ns.map nmV)<|Ed _)<|fI<|fI fzN
  ·have he:i=N ns:=by omega
   refine Wm ?_;rw[he,lL];exact hoE () O<|B6 6 (frC (frO<|flC (Af V)<|flC (D3 V)<|flC (fvM V) flN)<|frC Z<|frC (frS<|hbk _)<|frC (frS<|Bc _)<|frC (frS Z)<|frC (frS<|Ci _) frN)<|fzC Z (Af V)<|fzC Z (Af V) fzN
 intro _ _;refine Wm ?_;refine ExM.lpA (σ:=Nat) (λi=>⟨.al [(0,aP 0 0),(3,aP 2 0),(44,aR 3<|ns.map nmV),(45,J U<|N<|ns.map nmV),(46,J U i)],wbH es [x,aR 3<|ns.map nmV,y,z] (N<|ns.map nmV) (iI<|N (ns.map nmV)/256^0)<|((Ad 1 (N<|ns.map nmV)++ns.flatMap (nmA ix))++ns.flatMap nmB)++(ns.take i).flatMap (nmC ix),56⟩) (λi=>i≤N ns) (λi=>N ns-i) 0 (B6 6 (frC (frO<|flC (Af V)<|flC (Gy V B4)<|flC (fvM V) flN)<|frC Z<|frC (frS<|hbk _)<|frC (frS<|Bc _)<|frC (frS Z)<|frC bY157 frN)<|fzC Z (Af V)<|fzC Z (Af V)<|fzC Z (Aq (v:=aR 3<|ns.map nmV)<|Ed _)<|fI<|fI fzN) (hZ _) ?_
 ·intro i hi;by_cases hlt:i<N ns
  ·obtain⟨⟨s,hs,ls⟩,ha,hf⟩:=hr i hlt;have hl0:N (((Ad 1 (N<|ns.map nmV)++ns.flatMap (nmA ix))++ns.flatMap nmB)++(ns.take i).flatMap (nmC ix))=(1+N ns*2+N ns*1)+N (ns.take i)*2:=by rw[lAp,Ee CD,q2]
   have hl1:N (ns.take i)≤20:=by grind
   have e8:=L9 (f:=(nmC ix)) pn0 hlt;have hi2:=Dn (f:=nmV) (l:=ns) (d:=pn0) (s:=⟨.al [(47,I true),(0,aP 0 0),(3,aP 2 0),(44,aR 3<|ns.map nmV),(45,J U<|N<|ns.map nmV),(46,J U i)],wbH es [x,aR 3<|ns.map nmV,y,z] (N<|ns.map nmV) (iI<|N (ns.map nmV)/256^0)<|((Ad 1 (N<|ns.map nmV)++ns.flatMap (nmA ix))++ns.flatMap nmB)++(ns.take i).flatMap (nmC ix),56⟩) (G:=G) (x:=.tmp 44) (i:=.tmp 46) (k:=3) Z Z Z hlt;rw[nmC]at e8;rw[nmV]at hi2;generalize ns.getD i pn0=p at hi2 e8 hs ha hf;refine Wm ?_;refine mS hi2 ?_ (hs:=by simp only[Ah,and_true];omega);refine Wm ?_;refine mS (v:=aH 1 7 0 1<|some 1) Z ?_;refine mC Z (LU (k:=1) (ss:=[p.f]) (ix:=ix) (X:=[C 48 [S p.n,J U p.a,S p.f] false,C 9 (Ce [p.f]) false]) hg hbk (λ_ _=>Z) Z (by grind) (oneT hf) hixb) ?_;refine Wm ?_;refine haN (i+1) Y Y<|B6 6 (frC (frO<|flC (Af V)<|flC (Gy V (by grind))<|flC (fvM V) flN)<|frC Z<|frC (frS<|hbk _)<|frC (frS<|Bc _)<|frC (frS Z)<|frC (by grind[frS,Ci]) frN)<|fzC Z (Af V)<|fzC Z (Af V)<|fzC Z (Aq (v:=aR 3<|ns.map nmV)<|Ed _)<|fI<|fI fzN
  ·have he:i=N ns:=by omega
   refine Wm ?_;refine haE<|kJ ?_;rw[he,lL];exact pS
theorem textR (hg:hGr W0 G){H:Hz}{id jd md:Nat}{l:Bz}{ss:List Bz}{es:List (Bz×Int)}{ix:Bz→Nat}(hb:B7 (N H) H=true)(ho:H[id]?=some (C 109 [aP id 0,aH 1 jd 0 (N l) none,.mref md] false))(hj:H[jd]?=some (C 5 (u8c l) true))(hm:H[md]?=some (.mp es))(hl:N l+N ss*2≤1000000)(hix:∀i,i<N ss→Ih es (ss.getD i [])=(ix (ss.getD i []):Nat))(hixb:∀s,ix s<9223372036854775808):cP W0 88 [aP id 0,aR 1<|ss.map S] H (aU []) (us H id jd (.mref md)<|l++txB ix ss):=by
 have hid:=gLt ho;have hjd:=gLt hj;have hne:id≠jd:=λe=>by grind
 have hmi:id≠md:=λe=>by grind
 have hmj:jd≠md:=λe=>by grind
 have hmU:∀{k:Bz},(us H id jd (.mref md) k)[md]?=some (.mp es):=λ{k}=>LR hmi hmj hm;have hbA:∀{k:Bz}{n:Nat},B7 (N<|us H id jd (.mref md) k++[C 3 (Bm [n]) false]) (us H id jd (.mref md) k++[C 3 (Bm [n]) false])=true:=λ{k n}=>by rw[lAp,J7];exact Fv (Io (lR _ _)<|Ue hb ho hid hjd) Z
 refine goM 88 22 ?_;refine sO<|mV Z<|mV (v:=J U<|N ss) (Hy Z)<|x1 Z<|bM ?_;refine jT (σ:=Nat) (τ:=Unit) (λi=>⟨.al [(0,aP id 0),(6,aR 1<|ss.map S),(7,J U<|N ss),(8,J U i)],us H id jd (.mref md)<|l++txB ix (ss.take i),22⟩) (λi=>i≤N ss) (λi=>N ss-i) 0 0 (λ_=>⟨.al [],us H id jd (.mref md)<|l++txB ix ss,22⟩) (λ_=>True) (Ap Z (by rw[lU];show us H id jd (.mref md) (l++[])=H;grind[BI])<|sb4 Z Z Z Z<|(((sbN)))) (hZ _) ?_ ?_
 ·rintro i hi;have hi:i≤N ss:=hi;by_cases hlt:i<N ss
  ·have hbl:N (l++txB ix (ss.take i))+1*2≤1000000:=by rw[lAp,Lc,lW];omega
   refine sO<|mT Z<|mn<|sq<|cT Z<|kM<|sq<|bM<|sO<|mS (v:=aE (S<|ss.getD i []) 0) (Dn Z Z Z hlt)<|mV (v:=S<|ss.getD i []) Z<|x1 Z<|oM<|m2 Z Z<|mV (v:=aP id 0) (Im Z<|Ox hid)<|mV (v:=aP id 2) (Gv Z<|Ox hid)<|mV (v:=.mref md) (O9 Z (Ox hid) Z)<|mV Z<|mV (v:=J U<|ix<|ss.getD i []) (GN Z Z hmU<|hix i hlt)<|mK (v:=aH 1 (N H) 0 (N [ix<|ss.getD i []])<|some 1) Z (congrArg (λn=>aH 1 n 0 1<|some 1) J7)<|mC Z (by have h:=putU (H:=us H id jd (.mref md) (l++txB ix (ss.take i))++[C 3 (Bm [ix<|ss.getD i []]) false]) (sd:=N H) (ns:=[ix<|ss.getD i []]) (w:=2) (cp:=some 1) hg hbA (gA<|Ox hid) (gA<|QS hjd hne) (by grind[J7]) V B4 hbl (λj=>by grind);rw[SC (by grind[J7]) (by grind[J7]),QX hne,U1]at h;exact h)<|mn<|oM ?_;refine mFz (s1:=⟨.al [(0,aP id 0),(6,aR 1<|ss.map S),(7,J U<|N ss),(8,J U i)],us H id jd (.mref md)<|l++txB ix (ss.take i)++Ad 2 (ix<|ss.getD i []),22⟩) (As (N H) Z (bC _) Wa (Ue hb ho hid hjd)<|fzC Z (Ji hid)<|fzC Z (Aq (v:=aR 1<|ss.map S)<|Cf _)<|fI<|fI fzN) ?_;refine mI ((i+1:Nat):Int) Z<|x1 Z ?_;exact⟨(i+1),(Y:i+1≤N ss),Y,Ap Z (by rw[DY hlt,cE])<|sb4 Z Z Z Z<|(((sbN)))⟩
  ·have he:i=N ss:=by omega
   refine sO<|mF Z<|mn<|sq<|cF Z<|iN ?_;grind[Ap,sbN]
 ·rintro _ s' hJ hs;exact(A6 (rs:=[]) (vs:=[]) O Z Z hs.H.symm:Ja [] (N H) (aU []) (us H id jd (.mref md)<|l++txB ix ss) .normal s')
def K4 (b:Bool):List Bz:=cond b [[116,97,98],[120],[121,32,121]] []
def EW (ix:Bz→Nat)(b:Bool):Bz:=Ad 1 (N<|tlT b)++cond b (txB ix [[116,97,98]]++Dz 1 [0,9,1,2,2]++txB ix [[120],[121,32,121]]) []
theorem tablesW (hg:hGr W0 G){es:List (Bz×Int)}{x y z:AVal}{ix:Bz→Nat}(b:Bool)(hbk:∀n,A8 n [x,y,aR 6<|tlT b,z]=true)(hr:∀s∈K4 b,Ih es s=(ix s:Nat))(hixb:∀s,ix s<9223372036854775808):
 cP W0 52 [aP 0 0,aG [x,y,aR 6<|tlT b,z]] [C 109 [.nilPtr,aN,.mref 1] false,.mp es] (aU []) (wbH es [x,y,aR 6<|tlT b,z] (N<|tlT b) (iI<|N (tlT b)/256^0)<|EW ix b):=by
 have hb4:B7 4 [C 109 [.nilPtr,aN,.mref 1] false,.mp es,C 31 [x,y,aR 6<|tlT b,z] false,C 3 (Bm [N<|tlT b]) false]=true:=by show cond true (cond (A8 4 [x,y,aR 6<|tlT b,z]) (cond true true false) false) false=true;grind
 cases b with|false=>have hb0:∀n,A8 n [x,y,aR 6 [],z]=true:=hbk;show cP W0 52 [aP 0 0,aG [x,y,aR 6 [],z]] _ _ (wbH es [x,y,aR 6 [],z] 0 (iI<|0/256^0)<|Ad 1 0);refine goW 52 43 2 ?_;refine Wm ?_;refine mS (v:=aH 1 3 0 1<|some 1) Z ?_;refine mC Z (GM (n:=0) hg hb4 Z Z V) ?_;refine Wm ?_;refine lO 0 ?_;refine Wm ?_;refine uE ?_;refine kJ ?_ (hj:=by simp_all);exact pS|true=>have hb1:∀n,A8 n [x,y,aR 6 [aG TbC],z]=true:=hbk;have h1:Ih es [116,97,98]=(ix [116,97,98]:Nat):=hr _ (by simp[K4]);have h2:Ih es [120]=(ix [120]:Nat):=hr _ (by simp[K4]);have h3:Ih es [121,32,121]=(ix [121,32,121]:Nat):=hr _ (by simp[K4]);show cP W0 52 [aP 0 0,aG [x,y,aR 6 [aG TbC],z]] _ _ (wbH es [x,y,aR 6 [aG TbC],z] 1 (iI<|1/256^0)<|Ad 1 1++(txB ix [[116,97,98]]++Dz 1 [0,9,1,2,2]++txB ix [[120],[121,32,121]]));refine goW 52 43 2 ?_;refine Wm ?_;refine mS (v:=aH 1 3 0 1<|some 1) Z ?_;refine mC Z (GM (n:=1) hg hb4 Z Z V) ?_;refine Wm ?_;refine jU (s1:=⟨.al [(0,aP 0 0),(3,aP 2 0),(13,aR 6 [aG TbC]),(14,J U 1),(15,J U 0)],wbH es [x,y,aR 6 [aG TbC],z] 1 (iI<|1/256^0)<|Ad 1 1,43⟩) (Ap Z Z<|sb4 Z Z Z Z<|(((sbC Z<|sbN)))) ?_;refine lO 1 ?_;refine Wm ?_;refine mS (v:=aE (aG TbC) 0) Z ?_;refine Wm ?_;refine mS (v:=aH 1 7 0 1<|some 1) Z ?_;refine mC Z (LU (k:=1) (ss:=[[116,97,98]]) (ix:=ix) (X:=[C 51 TbC false,C 9 (Ce [[116,97,98]]) false]) hg hb1 (λ_ _=>Z) Z (by rw[Ak];decide) (oneT h1) hixb) ?_;refine Wm ?_;refine mS (v:=aH 1 8 0 5<|some 5) Z ?_;refine mC Z (RW (k:=2) (ns:=[0,9,1,2,2]) (X:=[C 51 TbC false,C 9 (Ce [[116,97,98]]) false,C 3 (Bm [0,9,1,2,2]) false]) hg hb1 (λ_ _=>Z) Z (by rw[lAp,Ak,Lc];decide) (by grind)) ?_;refine Wm ?_;refine mC Z (textR (id:=0) (jd:=5) (md:=1) (ss:=[[120],[121,32,121]]) (ix:=ix) (l:=Ad 1 1++txB ix [[116,97,98]]++Dz 1 [0,9,1,2,2]) hg (wbX hb1<|λ_ _=>Z) Z Z Z (by simp_all[Ak,Lc,Ie]) (by grind) hixb) ?_;refine Wm ?_;refine uN ?_;refine ExM.fh (s1:=⟨.al [(14,J U 1),(15,J U 1)],wbH es [x,y,aR 6 [aG TbC],z] 1 (iI<|1/256^0)<|Ad 1 1++(txB ix [[116,97,98]]++Dz 1 [0,9,1,2,2]++txB ix [[120],[121,32,121]]),43⟩) (B6 6 (frC (frO<|flC (Af V)<|flC (Gy V (by grind))<|flC (fvM V) flN)<|frC Z<|frC (frS<|hb1 _)<|frC (frS<|Bc _)<|frC (frS Z)<|frC (by grind[frS,Ci]) frN)<|fI<|fI fzN) ?_;refine Wm ?_;refine uE ?_;refine kJ ?_ (hj:=by simp_all);exact pS
def Tx0i0 :ACode:=(sQ [yV 30<|.bin .lss none 29 28]<|.seq (.cond 30 .skip<|.exit 2)<|.seq (.block 3<|sQ [yV 31<|.idxSl 3 27 29,yV 32<|.load 3 true 31,yV 7<|.alloc 81 [J U 0,J U 0,S []],yN<|.store 3 7 32]<|.ops [yM 33 3,yV 34<|.fieldAddr 2 7,yV 35<|.load 1 false 34,yV 36<|.bslice 9 1 1 [S []] [(0,1,35)],yV 37<|.append 9 1 16 33 36,yM 3 37])<|.ops [yV 38<|.bin .add none 29<|vI 1,yM 29 38])
theorem Zk :∀(p:List Bz),(Ce p).all fW=true
 | []=>rfl|_::p=>Zk p
theorem QI (l p:List Bz):Ce (l++p)=Ce l++Ce p:=by simp[Ce]
theorem Sm {s:St}{x y:AOpd}{vy:AVal}{l p:List Bz}{jd:Nat}{c:Option Nat}{H':Hz}(hx:ev G s x=some (aH 1 jd 0 (N l) c))(hy:ev G s y=some vy)(hv:Cm 1 s.H vy=some (Ce p,N p))(hj:s.H[jd]?=some (C 9 (Ce l) true))(hp:aA (N p) 0=false)(hH:s.H.set jd (C 9 (Ce<|l++p) true)=H'):
 aop G s (.append 9 1 16 x y)=some (.val (aH 1 jd 0 (N<|l++p) none) H' [(((N l+N p)*16:Nat),C0),((N l+N p:Nat),C0)]):=by
 subst hH;have hl:N (Ce l)=N l*1:=LL;simp_all[QI,aop,P4,Zk,G6]
abbrev tH (bk sh0:List AVal)(q0:Bz)(l:List Bz):Hz:=[C 31 bk false,C 44 sh0 false,C 9 [S q0] false,C 9 (Ce l) true]
def nmT (p:PNm):List Bz:=[p.n,p.f]
def rlT (r:PRl):List Bz:=[r.f]
def Db (shs:List PSh)(ns:List PNm)(tb:Bool)(rs:List PRl):List Bz:=Ej shs++ns.flatMap nmT++K4 tb++rs.flatMap rlT
def Dc (L:List Bz):List Bz:=gI (Qk L).toArray<|N<|Qk L
theorem Oy {H:Hz}{n:Nat}{l l':List Bz}{c:Option Nat}(hn:3<n)(e:l=l'):FzV H n (aH 1 3 0 (N l) c) (aH 1 3 0 (N l') c):=by grind[D3]
theorem Om {H:Hz}{n:Nat}{l l':List Bz}(e:l=l'):FrO H n (C 9 (Ce l) true) (C 9 (Ce l') true):=by grind[frS,Cf]
section
variable {bk sh0 : List AVal} {q0 : Bz}
theorem UH (hg:hGr W0 G){l0:List Bz}{cs:List PCl}{A:AVal}{B Cx:Int}{K:Aj→St→Prop}(hbk:A8 0 bk=true)(hsh:A8 0 sh0=true)(hA:blw 0 A=true)(hl:N l0+N cs≤1000000)
 (hK:K (.exit 2) ⟨.al [(30,I false),(1,aP 0 0),(3,aH 1 3 0 (N<|l0++(cs.take<|N cs).map (·.s)) none),(15,A),(16,J U B),(17,J U Cx),(27,aR 3<|cs.map pcV),(28,J U<|N<|cs.map pcV),(29,J U<|N cs)],(tH bk sh0 q0<|l0++(cs.take<|N cs).map (·.s)),88⟩):ExM gH W0 0 (.loop Tx0i0) ⟨.al [(1,aP 0 0),(3,aH 1 3 0 (N<|l0++(cs.take 0).map (·.s)) none),(15,A),(16,J U B),(17,J U Cx),(27,aR 3<|cs.map pcV),(28,J U<|N<|cs.map pcV),(29,J U (0:Nat))],(tH bk sh0 q0<|l0++(cs.take 0).map (·.s)),88⟩ K:=by
 have hlm:N (cs.map pcV)=N cs:=jY _;refine ExM.lpA (σ:=Nat) (λj=>⟨.al [(1,aP 0 0),(3,aH 1 3 0 (N<|l0++(cs.take j).map (·.s)) none),(15,A),(16,J U B),(17,J U Cx),(27,aR 3<|cs.map pcV),(28,J U<|N<|cs.map pcV),(29,J U j)],(tH bk sh0 q0<|l0++(cs.take j).map (·.s)),88⟩) (λj=>j≤N cs) (λj=>N cs-j) 0 (B6 4 (frC (frS hbk)<|frC (frS hsh)<|frC (frS Z)<|frC (Om Z) frN)<|fzC Z (Af V)<|fzC Z (Oy V Z)<|fzC Z (Aq hA)<|fI<|fI<|fzC Z (Aq (v:=aR 3<|cs.map pcV)<|B8 _)<|fI<|fI fzN) (hZ _) ?_;intro j hj;unfold Tx0i0;by_cases hlt:j<N cs
 ·have hi2:=Dn (f:=pcV) (l:=cs) (d:=pc0) (s:=⟨.al [(30,I true),(1,aP 0 0),(3,aH 1 3 0 (N<|l0++(cs.take j).map (·.s)) none),(15,A),(16,J U B),(17,J U Cx),(27,aR 3<|cs.map pcV),(28,J U<|N<|cs.map pcV),(29,J U j)],(tH bk sh0 q0<|l0++(cs.take j).map (·.s)),88⟩) (G:=G) (x:=.tmp 27) (i:=.tmp 29) (k:=3) Z Z Z hlt;have e8:=mp_take hlt;have hl1:N ((cs.take j).map (·.s))≤j:=by grind
  rw[pcV]at hi2;generalize cs.getD j pc0=c at hi2 e8;refine Wm ?_;refine mS hi2 ?_ (hs:=by simp only[Ah,and_true];omega);refine Wm ?_;refine mS (v:=aH 1 5 0 1<|some 1) Z ?_;refine mS (Sm (p:=[c.s]) Z Z Z Z Z Z) ?_ (hs:=by simp only[Ah,and_true,C0,lAp,lCo,lNi];omega);refine Wm ?_;refine haN (j+1) Y Y<|B6 4 (frC (frS hbk)<|frC (frS hsh)<|frC (frS Z)<|frC (Om (by grind)) frN)<|fzC Z (Af V)<|fzC Z (Oy V (by grind))<|fzC Z (Aq hA)<|fI<|fI<|fzC Z (Aq (v:=aR 3<|cs.map pcV)<|B8 _)<|fI<|fI fzN
 ·have he:j=N cs:=by omega
  subst he;refine Wm ?_;exact haE hK
end
abbrev bkT (shs:List PSh)(ns:List PNm)(tb:Bool)(rs:List PRl):List AVal:=[aR 2<|shs.map psV,aR 3<|ns.map nmV,aR 6<|tlT tb,aR 8<|rs.map rlV]
abbrev NT (shs:List PSh):List AVal:=[S (shs.getD 0 ps0).nm,aR 3<|(shs.getD 0 ps0).cs.map pcV]
abbrev tG (shs:List PSh)(ns:List PNm)(tb:Bool)(rs:List PRl)(l:List Bz):Hz:=tH (bkT shs ns tb rs) (NT shs) (shs.getD 0 ps0).nm l
def stS (shs:List PSh)(ns:List PNm)(tb:Bool)(rs:List PRl):Nat→St
 |0=>⟨.al [(1,aP 0 0),(3,aN),(15,aR 2<|shs.map psV),(16,J U<|N<|shs.map psV),(17,J U (0:Nat))],[C 31 (bkT shs ns tb rs) false],88⟩|i+1=>⟨.al [(1,aP 0 0),(3,aH 1 3 0 (N<|Ej<|shs.take<|i+1) none),(15,aR 2<|shs.map psV),(16,J U<|N<|shs.map psV),(17,J U (i+1:Nat))],(tG shs ns tb rs<|Ej<|shs.take<|i+1),88⟩
theorem textsG (hg:hGr W0 G){shs:List PSh}{ns:List PNm}{tb:Bool}{rs:List PRl}(hs0:0<N shs)(hl:N (Db shs ns tb rs)≤900000):cP W0 46 [aG<|bkT shs ns tb rs] [] (aR 1<|(Dc<|Db shs ns tb rs).map S) []:=by
 have hbk:A8 0 (bkT shs ns tb rs)=true:=by
  have h1:A8 0 (tlT tb)=true:=by cases tb<;>rfl
  simp only[bkT,A8,blw,Av,Ed,Cj,h1,cond_true]
 have hsh:A8 0 (NT shs)=true:=by simp only[NT,A8,blw,B8,cond_true]
 have hls:N (shs.map psV)=N shs:=jY _;have hln:N (ns.map nmV)=N ns:=jY _;have hlr:N (rs.map rlV)=N rs:=jY _;have hlen:N (Ej shs)+N (ns.flatMap nmT)+N (K4 tb)+N (rs.flatMap rlT)≤900000:=by grind[Db]
 have hsl:N shs≤N (Ej shs):=by
  have:∀l:List PSh,N l≤N (Ej l):=λl=>by induction l with|nil=>exact bC _|cons x r ih=>simp only[Ej,lA,lAp,shT,lCo]at ih⊢;omega
  grind
 have hnl:N ns≤N (ns.flatMap nmT):=by
  have:∀l:List PNm,N (l.flatMap nmT)=N l*2:=λl=>by induction l with|nil=>rfl|cons x r ih=>simp only[lA,lAp,nmT,lCo,lNi]at ih⊢;omega
  grind
 have hrl:N rs≤N (rs.flatMap rlT):=by
  have:∀l:List PRl,N (l.flatMap rlT)=N l:=λl=>by induction l with|nil=>rfl|cons x r ih=>simp only[lA,lAp,rlT,lCo,lNi]at ih⊢;omega
  grind
 have htl:N (tlT tb)≤1:=by cases tb<;>decide
 refine goW 46 88 0 ?_;refine Wm ?_;refine lZ (σ:=Nat) (τ:=Unit) (stS shs ns tb rs) (λi=>i≤N shs) (λi=>N shs-i) 0 (λ_=>⟨.al [(1,aP 0 0),(3,aH 1 3 0 (N<|Ej shs) none)],(tG shs ns tb rs<|Ej shs),88⟩) (λ_=>True) (B6 1 (frC (frS hbk) frN)<|fzC Z (Af V)<|fzC Z Am<|fzC Z (Aq (v:=aR 2<|shs.map psV)<|Av _)<|fI<|fI fzN) (hZ _) ?_ ?_
 ·intro i hi;by_cases hlt:i<N shs
  ·have hb:N (Ej<|shs.take i)+(1+(shs.getD i ps0).cs.length)≤N (Ej shs):=by have h:=IV (f:=shT) ps0 hlt;grind[shT,Ej]
   have e8:=SG hlt;cases i with|zero=>have hi2:=Dn (f:=psV) (l:=shs) (d:=ps0) (s:=⟨.al [(18,I true),(1,aP 0 0),(3,aN),(15,aR 2<|shs.map psV),(16,J U<|N<|shs.map psV),(17,J U (0:Nat))],[C 31 (bkT shs ns tb rs) false],88⟩) (G:=G) (x:=.tmp 15) (i:=.tmp 17) (k:=2) Z Z Z hlt;rw[psV]at hi2;unfold stS;refine Wm ?_;refine mS hi2 ?_ (hs:=by simp only[Ah,and_true];omega);refine Wm ?_;refine mS (v:=aH 1 2 0 1<|some 1) Z ?_;refine mS (v:=aH 1 3 0 1 none) Z ?_ (hs:=by simp_all[Ah,C0]);refine Wm ?_;refine ExM.fh (s1:=⟨.al [(1,aP 0 0),(3,aH 1 3 0 (N<|[(shs.getD 0 ps0).nm]++((shs.getD 0 ps0).cs.take 0).map (·.s)) none),(15,aR 2<|shs.map psV),(16,J U<|N<|shs.map psV),(17,J U (0:Nat)),(27,aR 3<|(shs.getD 0 ps0).cs.map pcV),(28,J U<|N<|(shs.getD 0 ps0).cs.map pcV),(29,J U (0:Nat))],(tG shs ns tb rs<|[(shs.getD 0 ps0).nm]++((shs.getD 0 ps0).cs.take 0).map (·.s)),88⟩) (B6 4 (frC (frS hbk)<|frC (frS hsh)<|frC (frS Z)<|frC (by rw[lU,List.map_nil,lP];exact frS rfl) frN)<|fzC Z (Af V)<|fzC Z (Gy V B4)<|fzC Z (Aq (v:=aR 2<|shs.map psV)<|Av _)<|fI<|fI<|fzC Z (Aq (v:=aR 3<|(shs.getD 0 ps0).cs.map pcV)<|B8 _)<|fI<|fI fzN) ?_;refine UH hg (B:=((N (shs.map psV):Nat):Int)) (Cx:=((0:Nat):Int)) hbk hsh (A:=aR 2<|shs.map psV) (Av _) (by grind) ?_;refine kJ ?_ (hj:=by simp_all);refine Wm ?_;refine hoN 1 hlt Y (B6 4 (frC (frS hbk)<|frC (frS hsh)<|frC (frS Z)<|frC (Om bY118) frN)<|fzC Z (Af V)<|fzC Z (Oy V bY118)<|fzC Z (Aq (v:=aR 2<|shs.map psV)<|Av _)<|fI<|fI fzN)|succ i=>have hi2:=Dn (f:=psV) (l:=shs) (d:=ps0) (s:=⟨.al [(18,I true),(1,aP 0 0),(3,aH 1 3 0 (N<|Ej<|shs.take<|i+1) none),(15,aR 2<|shs.map psV),(16,J U<|N<|shs.map psV),(17,J U (i+1:Nat))],(tG shs ns tb rs<|Ej<|shs.take<|i+1),88⟩) (G:=G) (x:=.tmp 15) (i:=.tmp 17) (k:=2) Z Z Z hlt;rw[psV]at hi2;unfold stS;refine Wm ?_;refine mS hi2 ?_ (hs:=by simp only[Ah,and_true];omega);refine Wm ?_;refine mS (v:=aH 1 5 0 1<|some 1) Z ?_;refine mS (Sm (p:=[(shs.getD (i+1) ps0).nm]) Z Z Z Z Z Z) ?_ (hs:=by simp only[Ah,and_true,C0,lAp,lCo,lNi];omega);refine Wm ?_;refine ExM.fh (s1:=⟨.al [(1,aP 0 0),(3,aH 1 3 0 (N<|(Ej (shs.take<|i+1)++[(shs.getD (i+1) ps0).nm])++((shs.getD (i+1) ps0).cs.take 0).map (·.s)) none),(15,aR 2<|shs.map psV),(16,J U<|N<|shs.map psV),(17,J U (i+1:Nat)),(27,aR 3<|(shs.getD (i+1) ps0).cs.map pcV),(28,J U<|N<|(shs.getD (i+1) ps0).cs.map pcV),(29,J U (0:Nat))],(tG shs ns tb rs<|(Ej (shs.take<|i+1)++[(shs.getD (i+1) ps0).nm])++((shs.getD (i+1) ps0).cs.take 0).map (·.s)),88⟩) (B6 4 (frC (frS hbk)<|frC (frS hsh)<|frC (frS Z)<|frC (Om (by grind)) frN)<|fzC Z (Af V)<|fzC Z (Oy V (by grind))<|fzC Z (Aq (v:=aR 2<|shs.map psV)<|Av _)<|fI<|fI<|fzC Z (Aq (v:=aR 3<|(shs.getD (i+1) ps0).cs.map pcV)<|B8 _)<|fI<|fI fzN) ?_;refine UH hg (B:=((N (shs.map psV):Nat):Int)) (Cx:=(((i+1):Nat):Int)) hbk hsh (A:=aR 2<|shs.map psV) (Av _) (by grind) ?_;refine kJ ?_ (hj:=by simp_all);refine Wm ?_;refine hoN (i+2) hlt Y<|B6 4 (frC (frS hbk)<|frC (frS hsh)<|frC (frS Z)<|frC (Om (by grind)) frN)<|fzC Z (Af V)<|fzC Z (Oy V (by grind))<|fzC Z (Aq (v:=aR 2<|shs.map psV)<|Av _)<|fI<|fI fzN
  ·have he:i=N shs:=by omega
   subst he;cases hz:N shs with
   |zero=>omega
   |succ q=>
    have ht:shs.take (q+1)=shs:=by grind
    show ExM gH W0 0 _ ⟨.al [(1,aP 0 0),(3,aH 1 3 0 (N<|Ej<|shs.take<|q+1) none),(15,aR 2<|shs.map psV),(16,J U<|N<|shs.map psV),(17,J U (q+1:Nat))],(tG shs ns tb rs<|Ej<|shs.take<|q+1),88⟩ _;rw[ht];refine Wm ?_;exact hoE () O<|B6 4 (frC (frS hbk)<|frC (frS hsh)<|frC (frS Z)<|frC (Om Z) frN)<|fzC Z (Af V)<|fzC Z (Oy V Z) fzN
 intro _ _;refine Wm ?_;refine lZ (σ:=Nat) (τ:=Unit) (λi=>⟨.al [(1,aP 0 0),(3,aH 1 3 0 (N<|Ej shs++(ns.take i).flatMap nmT) none),(41,aR 3<|ns.map nmV),(42,J U<|N<|ns.map nmV),(43,J U i)],(tG shs ns tb rs<|Ej shs++(ns.take i).flatMap nmT),88⟩) (λi=>i≤N ns) (λi=>N ns-i) 0 (λ_=>⟨.al [(1,aP 0 0),(3,aH 1 3 0 (N<|Ej shs++ns.flatMap nmT) none)],(tG shs ns tb rs<|Ej shs++ns.flatMap nmT),88⟩) (λ_=>True) (B6 4 (frC (frS hbk)<|frC (frS hsh)<|frC (frS Z)<|frC (Om (by grind)) frN)<|fzC Z (Af V)<|fzC Z (Oy V (by grind))<|fzC Z (Aq (v:=aR 3<|ns.map nmV)<|Ed _)<|fI<|fI fzN) (hZ _) ?_ ?_
 ·intro i hi;by_cases hlt:i<N ns;·have e8:=K3 (f:=nmT) pn0 hlt;have hb:=IV (f:=nmT) pn0 hlt;have hi2:=Dn (f:=nmV) (l:=ns) (d:=pn0) (s:=⟨.al [(44,I true),(1,aP 0 0),(3,aH 1 3 0 (N<|Ej shs++(ns.take i).flatMap nmT) none),(41,aR 3<|ns.map nmV),(42,J U<|N<|ns.map nmV),(43,J U i)],(tG shs ns tb rs<|Ej shs++(ns.take i).flatMap nmT),88⟩) (G:=G) (x:=.tmp 41) (i:=.tmp 43) (k:=3) Z Z Z hlt;rw[nmV]at hi2;rw[nmT]at e8 hb;generalize ns.getD i pn0=p at hi2 e8 hb;simp only[lCo,lNi]at hb;refine Wm ?_;refine mS hi2 ?_ (hs:=by simp only[Ah,and_true];omega);refine Wm ?_;refine mS (v:=aH 1 5 0 2<|some 2) Z ?_;refine mS (Sm (p:=[p.n,p.f]) Z Z Z Z Z Z) ?_ (hs:=by simp only[Ah,and_true,C0,lAp,lCo,lNi];omega);refine Wm ?_;refine hoN (i+1) hlt Y (B6 4 (frC (frS hbk)<|frC (frS hsh)<|frC (frS Z)<|frC (Om (by grind)) frN)<|fzC Z (Af V)<|fzC Z (Oy V (by grind))<|fzC Z (Aq (v:=aR 3<|ns.map nmV)<|Ed _)<|fI<|fI fzN)
  ·have he:i=N ns:=by omega
   subst he;refine Wm ?_;exact hoE () O<|B6 4 (frC (frS hbk)<|frC (frS hsh)<|frC (frS Z)<|frC (Om (by grind)) frN)<|fzC Z (Af V)<|fzC Z (Oy V (by grind)) fzN
 intro _ _;refine Wm ?_;refine lZ (σ:=Nat) (τ:=Unit) (λi=>⟨.al [(1,aP 0 0),(3,aH 1 3 0 (N<|(Ej shs++ns.flatMap nmT)++cond (aA i 0) [] (K4 tb)) none),(56,aR 6<|tlT tb),(57,J U<|N<|tlT tb),(58,J U i)],(tG shs ns tb rs<|(Ej shs++ns.flatMap nmT)++cond (aA i 0) [] (K4 tb)),88⟩) (λi=>i≤N (tlT tb)) (λi=>N (tlT tb)-i) 0 (λ_=>⟨.al [(1,aP 0 0),(3,aH 1 3 0 (N<|(Ej shs++ns.flatMap nmT)++K4 tb) none)],(tG shs ns tb rs<|(Ej shs++ns.flatMap nmT)++K4 tb),88⟩) (λ_=>True) (B6 4 (frC (frS hbk)<|frC (frS hsh)<|frC (frS rfl)<|frC (Om (lP _).symm) frN)<|fzC rfl (Af V)<|fzC rfl (Oy V (lP _).symm)<|fzC rfl (Aq (v:=aR 6<|tlT tb) (by cases tb<;>rfl))<|fI<|fI fzN) (hZ _) ?_ ?_
 ·intro i hi;cases tb with
  |false=>have he:i=0:=Nat.le_zero.1 hi;subst he;refine Wm ?_;exact hoE () O<|B6 4 (frC (frS hbk)<|frC (frS hsh)<|frC (frS Z)<|frC (Om Z) frN)<|fzC Z (Af V)<|fzC Z (Oy V Z) fzN
  |true=>
   have he:i=0∨i=1:=Y;rcases he with rfl|rfl;·refine Wm ?_;refine mS (v:=aE (aG TbC) 0) Z ?_ (hs:=by simp only[Ah,and_true];decide);refine Wm ?_;refine ExM.fh (s1:=⟨.al [(1,aP 0 0),(3,aH 1 3 0 (N<|Ej shs++ns.flatMap nmT) none),(11,aP 4 0),(56,aR 6 [aG TbC]),(57,J U 1),(58,J U 0)],(tG shs ns true rs<|Ej shs++ns.flatMap nmT)++[C 51 TbC false],88⟩) (B6 5 (frC (frS hbk)<|frC (frS hsh)<|frC (frS Z)<|frC (Om<|lP _)<|frC (frS Z) frN)<|fzC Z (Af V)<|fzC Z (Oy V<|lP _)<|fzC Z (Af (id:=4) (off:=0) V)<|fzC Z (Aq (v:=aR 6 [aG TbC]) Z)<|fI<|fI fzN) ?_;refine ExM.drawC hg ?_;refine Ha Z Z O Ar<|Ha Z Z O Ar<|Ha Z Z O Ar<|Rl (v:=aH 1 5 0 1<|some 1) Z Z O Z (by repeat (first|exact pdN|refine pdC (cN Z) ?_|refine pdC (cY Z<|evY Z O) ?_)) ?_;refine Rl (Sm (p:=[[116,97,98]]) (H':=(tG shs ns true rs<|(Ej shs++ns.flatMap nmT)++[[116,97,98]])++[C 51 TbC false,C 9 [S [116,97,98]] false]) Z Z Z Z Z Z) Z bY134 Z (by repeat (first|exact pdN|refine pdC (cN Z) ?_|refine pdC (cY Z<|evY Z O) ?_)) ?_;refine Vn Z Z O Z (ptC (cNp (by simp_all))<|ptC (cYp (by show(aA 8 24|| !(jR _ 8 5))=false;rfl)<|evY Z O)<|ptC (cYp (by show(aA 0 24|| !(jR _ 0 5))=false;rfl)<|evY Z O) ptN)<|Vn (v:=aR 1 [S [120],S [121,32,121]]) Z Z O Z (ptC (cNp (by simp_all))<|ptC (cYp (by show(aA 8 24|| !(jR _ 8 6))=false;rfl)<|evY Z O)<|ptC (cYp (by show(aA 0 24|| !(jR _ 0 6))=false;rfl)<|evY Z O) ptN) ?_;refine Rl (Sm (p:=[[120],[121,32,121]]) (H':=(tG shs ns true rs<|(Ej shs++ns.flatMap nmT)++[[116,97,98]]++[[120],[121,32,121]])++[C 51 TbC false,C 9 [S [116,97,98]] false]) Z Z Z Z Z Z) Z bY134 Z (by repeat (first|exact pdN|refine pdC (cN Z) ?_|refine pdC (cY Z<|evY Z O) ?_)) ?_;refine Ha Z Z O Ar<|MK Z ?_;refine Wm ?_;refine hoN 1 (bC _) lY<|B6 4 (frC (frS hbk)<|frC (frS hsh)<|frC (frS Z)<|frC (Om (by simp[K4,aA])) frN)<|fzC Z (Af V)<|fzC Z (Oy V (by simp[K4,aA]))<|fzC Z (Aq (v:=aR 6<|tlT true) Z)<|fI<|fI fzN
   ·refine Wm ?_;exact hoE () O<|B6 4 (frC (frS hbk)<|frC (frS hsh)<|frC (frS Z)<|frC (Om Z) frN)<|fzC Z (Af V)<|fzC Z (Oy V Z) fzN
 intro _ _;refine Wm ?_;refine lZ (σ:=Nat) (τ:=Unit) (λi=>⟨.al [(1,aP 0 0),(3,aH 1 3 0 (N<|((Ej shs++ns.flatMap nmT)++K4 tb)++(rs.take i).flatMap rlT) none),(72,aR 8<|rs.map rlV),(73,J U<|N<|rs.map rlV),(74,J U i)],(tG shs ns tb rs<|((Ej shs++ns.flatMap nmT)++K4 tb)++(rs.take i).flatMap rlT),88⟩) (λi=>i≤N rs) (λi=>N rs-i) 0 (λ_=>⟨.al [(1,aP 0 0),(3,aH 1 3 0 (N<|Db shs ns tb rs) none)],(tG shs ns tb rs<|Db shs ns tb rs),88⟩) (λ_=>True) (B6 4 (frC (frS hbk)<|frC (frS hsh)<|frC (frS Z)<|frC (Om (by grind)) frN)<|fzC Z (Af V)<|fzC Z (Oy V (by grind))<|fzC Z (Aq (v:=aR 8<|rs.map rlV)<|Cj _)<|fI<|fI fzN) (hZ _) ?_ ?_
 ·intro i hi;by_cases hlt:i<N rs;·have e8:=K3 (f:=rlT) rl0 hlt;have hb:=IV (f:=rlT) rl0 hlt;have hi2:=Dn (f:=rlV) (l:=rs) (d:=rl0) (s:=⟨.al [(75,I true),(1,aP 0 0),(3,aH 1 3 0 (N<|((Ej shs++ns.flatMap nmT)++K4 tb)++(rs.take i).flatMap rlT) none),(72,aR 8<|rs.map rlV),(73,J U<|N<|rs.map rlV),(74,J U i)],(tG shs ns tb rs<|((Ej shs++ns.flatMap nmT)++K4 tb)++(rs.take i).flatMap rlT),88⟩) (G:=G) (x:=.tmp 72) (i:=.tmp 74) (k:=8) Z Z Z hlt;rw[rlV]at hi2;rw[rlT]at e8 hb;generalize rs.getD i rl0=p at hi2 e8 hb;simp only[lCo,lNi]at hb;refine Wm ?_;refine mS hi2 ?_ (hs:=by simp only[Ah,and_true];omega);refine Wm ?_;refine mS (v:=aH 1 5 0 1<|some 1) Z ?_;refine mS (Sm (p:=[p.f]) Z Z Z Z Z Z) ?_ (hs:=by simp only[Ah,and_true,C0,lAp,lCo,lNi];omega);refine Wm ?_;refine hoN (i+1) hlt Y (B6 4 (frC (frS hbk)<|frC (frS hsh)<|frC (frS Z)<|frC (Om (by grind)) frN)<|fzC Z (Af V)<|fzC Z (Oy V (by grind))<|fzC Z (Aq (v:=aR 8<|rs.map rlV)<|Cj _)<|fI<|fI fzN)
  ·have he:i=N rs:=by omega
   subst he;refine Wm ?_;exact hoE () O<|B6 4 (frC (frS hbk)<|frC (frS hsh)<|frC (frS Z)<|frC (Om (by rw[lL];rfl)) frN)<|fzC Z (Af V)<|fzC Z (Oy V (by rw[lL];rfl)) fzN
 intro _ _;have hnoid:DX 3 [C 31 (bkT shs ns tb rs) false,C 44 (NT shs) false,C 9 [S (shs.getD 0 ps0).nm] false,C 9 (Ce<|Db shs ns tb rs) true]=true:=by simp only[DX,List.all_cons,List.all_nil,TR,Hw _ hbk,Hw _ hsh,Hw _<|Cf _,Bool.and_true];rfl
 have hm:=UX (H:=[C 31 (bkT shs ns tb rs) false,C 44 (NT shs) false,C 9 [S (shs.getD 0 ps0).nm] false,C 9 (Ce<|Dc (Db shs ns tb rs)++fH (N (Qk<|Db shs ns tb rs)-N (Dc<|Db shs ns tb rs)) []) false]) (id:=3) (l:=Dc<|Db shs ns tb rs) (c:=none) Z;refine ExM.cl (s1:=⟨.al [(3,aH 1 3 0 (N<|Db shs ns tb rs) none)],[C 31 (bkT shs ns tb rs) false,C 44 (NT shs) false,C 9 [S (shs.getD 0 ps0).nm] false,C 9 (Ce<|Db shs ns tb rs) false],88⟩) (clMk (i:=3) (hZ _) Z Z Z hnoid Z<|clH Z LL clN) ?_;refine Wm ?_;refine mC Z (lSort (ss:=(Db shs ns tb rs)) Z Z Y) ?_;refine Wm ?_;refine mC Z (FV (ss:=Qk<|Db shs ns tb rs) Z (by simp[Qk]) (by rw[Qk,mA];omega)<|Xx _ _) ?_;refine Wm ?_;exact A4 O Z Z hm.choose hm.choose_spec Z
theorem Mc {bd:Nat→Bz}:∀i,N (D6 bd<|i+1)=N (D6 bd i)+(9+N (bd i)):=λi=>by rw[D6,lAp,FN]
def Lj (b:Bool):List PNm:=cond b [⟨[82,97,116,101],-1,[61,83,33,36,65,36,49,43,49]⟩,⟨[111,119,110],0,[61,65,50,42,50]⟩] []
theorem nlN_map (b:Bool):nlN b=(Lj b).map nmV:=by cases b<;>rfl
theorem Q7 {L:List Bz}{s:Bz}(h:s∈Dc L):s∈L:=by grind[Dc,gI,Qk,List.mergeSort_perm]
theorem ST (L:List Bz):N (Dc L)≤N L:=bI (Xx _ _) (by rw[Qk,mA];omega)
theorem PH (shs:List PSh):N (Ej shs)=N shs+Ef shs:=by induction shs with|nil=>rfl|cons x r ih=>simp only[Ej,lA,lAp,shT,lCo,jY,Ef,jZ,List.sum_cons]at ih⊢;omega
theorem RJ {T:List Bz}(h:∀s∈T,N s≤200):N (Ia T)≤2+N T*202:=by
 have:∀T:List Bz,(∀s∈T,N s≤200)→N (T.flatMap dcB)≤N T*202:=by intro T;induction T with|nil=>intro _;exact bC _|cons x r ih=>intro h;have h1:=ih λs hs=>h s<|List.mem_cons_of_mem _ hs;have h2:=h x<|List.mem_cons_self ..;simp only[lA,lAp,dcB,Ak,lCo];omega
 grind[Ia,Ak]
theorem FL {ix:Bz→Nat}(shs:List PSh):N (Fj ix shs)=1+N shs*4+Ef shs*4:=by
 have:N (shs.flatMap<|shB ix)=N shs*4+Ef shs*4:=by induction shs with|nil=>rfl|cons x r ih=>simp only[lA,lAp,Wb,lCo,Ef,jZ,List.sum_cons]at ih⊢;omega
 grind[Fj,Ak]
theorem txOK {shs:List PSh}{n:Nat}{nb tb:Bool}{rs:List PRl}(hS:ShG W0 n 30 shs)(hn:n≤3)(hR:∀r∈rs,Yb W0 n r){s:Bz}(h:s∈Db shs (Lj nb) tb rs):s≠[]∧N s≤200:=by
 have hI:∀{t:Bz},Y5 W0 t→t≠[]∧N t≤200:=λh=>⟨h.1,h.2.elim (λh=>h.2.1)<|λh=>h.1⟩;have hG:∀{t:Bz},Qm W0 t→t≠[]∧N t≤200:=λ{t} h=>⟨by obtain⟨_,u,l,e,_⟩:=h;rw[e];simp,h.1⟩;simp only[Db,eG]at h;rcases h with((h|h)|h)|h
 ·simp only[Ej,List.mem_flatMap,shT,eS,List.mem_map]at h;obtain⟨x,hx,h⟩:=h;rcases h with rfl|⟨c,hc,rfl⟩
  ·have h1:x.nm∈OA n:=by rw[←hS.ok.nm];grind
   simp only[OA,List.mem_map,List.mem_range]at h1;obtain⟨k,hk,e⟩:=h1;rw[←e];have:k=0∨k=1∨k=2:=Y;rcases this with rfl|rfl|rfl<;>exact⟨V,V⟩
  ·exact hI (hS.ok.ok x hx c hc).2.2
 ·cases nb with
  |false=>cases h
  |true=>simp only[Lj,cond_true,lA,List.flatMap_nil,nmT,eG,eS,eY,or_false]at h;rcases h with(rfl|rfl)|(rfl|rfl)<;>exact⟨V,V⟩
 ·cases tb with
  |false=>cases h
  |true=>simp only[K4,cond_true,eS,eY,or_false]at h;rcases h with rfl|rfl|rfl<;>exact⟨V,V⟩
 ·simp only[List.mem_flatMap,rlT,List.mem_singleton]at h;obtain⟨r,hr,rfl⟩:=h;exact hG (hR r hr).f
def bdG (shs:List PSh)(ns:List PNm)(tb:Bool)(rs:List PRl):Nat→Bz
 |0=>Ia (Dc<|Db shs ns tb rs)|1=>Fj (ixN<|Dc<|Db shs ns tb rs) shs|2=>W2 (ixN<|Dc<|Db shs ns tb rs) (N<|ns.map nmV) ns|3=>EW (ixN<|Dc<|Db shs ns tb rs) tb|_=>Yv (ixN<|Dc<|Db shs ns tb rs) (N<|rs.map rlV) rs
end Go.Abs
namespace Go.Abs
open Go.Proofs Go.RowKit
set_option maxRecDepth 100000
theorem TK :Ql gH 20 3:=by
 intro args w hl;obtain⟨a,b,c,rfl⟩:∃a b c,args=[a,b,c]:=by match args,hl with| [a,b,c],_=>grind
 have hn:∀w:World,(binOp BinOp.neq 20 .nilIface .nilIface).run gH w= .ok (.bool false) w:=λ_=>Ar;refine callsD_of_wpS Tryz.func20 Z λc₀ cs hu=>?_;apply wpS_seq;apply wpS_region;simp[wpOpsS,go_sem,recoverD,hu,Tryz.ntmps20,mE];apply wpS_seq;apply wpS_region;simp[wpOpsS,go_sem,mE,fE,hn];refine wpS_cond (t:=false) (by simp[Act.eval]) ?_;simp only[bFt,if_false];refine wpS_of_wp<|wp_skip ?_;cases c₀;simp_all[bodyPostS,results]
theorem OV :Ql gH 59 2:=by
 intro args w hl;obtain⟨a,b,rfl⟩:∃a b,args=[a,b]:=by match args,hl with| [a,b],_=>grind
 have hn:∀w:World,(binOp BinOp.neq 20 .nilIface .nilIface).run gH w= .ok (.bool false) w:=λ_=>Ar;refine callsD_of_wpS Tryz.func59 Z λc₀ cs hu=>?_;apply wpS_seq;apply wpS_region;simp[wpOpsS,go_sem,recoverD,hu,Tryz.ntmps59,mE];apply wpS_seq;apply wpS_region;simp[wpOpsS,go_sem,mE,fE,hn];refine wpS_cond (t:=false) (by simp[Act.eval]) ?_;simp only[bFt,if_false];refine wpS_of_wp<|wp_skip ?_;cases c₀;simp_all[bodyPostS,results]
end Go.Abs
