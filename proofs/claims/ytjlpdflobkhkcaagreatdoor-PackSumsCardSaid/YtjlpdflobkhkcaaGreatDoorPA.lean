/- A part of the proof that tabula/tabulalaw25.PackSums returns true for every input, each argument reading as it did (its card: the last text). No conditions of its own. -/
import Derived.Calls
import Derived.Below
import Derived.Laws.Sem
import Derived.Laws.World
import Derived.Laws.AppendOwn
import Derived.KernelRfl
import Derived.Scope
import Derived.Laws.Cells
import Derived.Laws.CopyRow
import Derived.Laws.Rows
import Derived.Laws.Tables
import Derived.Laws.Strings
import Derived.Laws.Strings2
import Derived.Laws.Append
import Derived.Laws.CopyOwn
import Derived.Laws.BytesString
import Derived.Laws.BytesArg
import Derived.Laws.RangeString
import Derived.Laws.StructEq
import Derived.ChangeKeysEq
namespace Go.Abs
theorem Y {p:Prop}(h:p:=by omega):p:=h
theorem V {p:Prop}(h:p:=by decide):p:=h
theorem E3 {p:Prop}(h:p:=by revert hr;revert rw;revert hc;revert cl;decide):p:=h
theorem C7 {p:Prop}(h:p:=by with_unfolding_all exact rfl):p:=h
theorem Am {p:Prop}(h:p:=by kernel_rfl):p:=h
theorem Uf {p:Prop}(h:p:=by first|exact trivial|decide|(simp only[Ag,C6,and_true,lCo];omega)):p:=h
theorem bY6 {p:Prop}(h:p:=by first|exact trivial|(simp only[Ag,and_true,lCo,lNi,lAp];omega)):p:=h
theorem bY7 {p:Prop}(h:p:=by simp only[B9,Ab,blw,hc,B5,C4,Cc,Br,cond_true,Tj,lCo,lNi,lAp,wbH,List.cons_append,List.nil_append,us,List.set,Bf,C5,List.map];rfl):p:=h
theorem bY8 {p:Prop}(h:p:=by simp only;omega):p:=h
theorem Ax {p:Prop}(h:p:=by simp):p:=h
theorem bY10 {p:Prop}(h:p:=by first|exact trivial|(simp only[B3,Ci,Ag,and_true];omega)):p:=h
theorem bY11 {p:Prop}(h:p:=by simp only[lAp,lCo,lNi];omega):p:=h
theorem Y6 {p:Prop}(h:p:=by simp only[Ag,and_true,lAp,lCo,lNi];omega):p:=h
theorem A21 {p:Prop}(h:p:=by first|exact trivial|decide|(simp only[B3,Ci,Ag,and_true,Df,lCo,lNi];omega)):p:=h
theorem A2m {p:Prop}(h:p:=by first|exact trivial|decide|(simp only[B3,Ci,Ag,and_true];omega)):p:=h
theorem Ld {p:Prop}(h:p:=by simp only[Ag,and_true];omega):p:=h
theorem bY16 {p:Prop}(h:p:=by simp only[lCo]at*;omega):p:=h
theorem A2o {p:Prop}(h:p:=by first|exact trivial|(simp only[Ag,and_true];omega)):p:=h
theorem J6 {p:Prop}(h:p:=by rw[dB_nat hr];omega):p:=h
theorem J7 {p:Prop}(h:p:=by rw[cB_nat hc];omega):p:=h
theorem bY20 {p:Prop}(h:p:=by have h:=Ac7 (H:=us H id jd (.mref md) (l++txB ix (ss.take i))++[.cells 3 (Bf [ix<|ss.getD i []]) false]) (sd:=H.length) (ns:=[ix<|ss.getD i []]) (w:=2) (cp:=some 1) hg hbA (gA<|Nb hid) (gA<|A6r hjd hne) (by rw[←Gq (H:=H) (id:=id) (jd:=jd) (at_:=.mref md) (l:=l++txB ix (ss.take i))];exact gL) (by decide) (by simp) hbl (λj=>by cases j<;>simp[hixb]);rw[A4m (by rw[Gq];exact hid) (by rw[Gq];exact hjd),A62 hne,Ph]at h;exact h):p:=h
theorem Nw {p:Prop}(h:p:=by simpa only[ren,Rep]using hr):p:=h
theorem bY22 {p:Prop}(h:p:=by simp only[Ag,and_true];decide):p:=h
theorem L2 {p:Prop}(h:p:=by simp;omega):p:=h
theorem bY24 {p:Prop}(h:p:=by rw[Int.ofNat_tdiv_ten];omega):p:=h
theorem bY25 {p:Prop}(h:p:=by simp only[lAp,lCo,lNi]at*;omega):p:=h
theorem bY26 {p:Prop}(h:p:=by rw[List.length_take];omega):p:=h
theorem bY27 {p:Prop}(h:p:=by rw[List.take_zero,List.flatMap_nil,List.append_nil]):p:=h
theorem bY28 {p:Prop}(h:p:=by first|exact trivial|(simp only[Ag,and_true];exact hnn)):p:=h
theorem bY29 {p:Prop}(h:p:=by simp_all;omega):p:=h
theorem A81 {p:Prop}(h:p:=by rw[dN1];exact Ll (id:=1) (l:=[1]) (by decide) rfl):p:=h
theorem bY31 {p:Prop}(h:p:=by simp only[lCo,lNi];omega):p:=h
theorem bY32 {p:Prop}(h:p:=by first|exact trivial|(simp only[Ag,C6,and_true,lCo,lNi];omega)):p:=h
theorem bY33 {p:Prop}(h:p:=by cases b<;>simp only[Ie,bFt]at h;rfl):p:=h
theorem bY34 {p:Prop}(h:p:=by unfold Ny at hj;omega):p:=h
theorem bY35 {p:Prop}(h:p:=by simp_all<;>omega):p:=h
theorem bY36 {p:Prop}(h:p:=by first|exact trivial|(simp only[Ag,and_true,show fls.length=9 from rfl];omega)):p:=h
theorem bY37 {p:Prop}(h:p:=by simp_all[C9,Dv,wrapB]<;>omega):p:=h
theorem bY38 {p:Prop}(h:p:=by show cond (Ab 3<|nb b l m) (cond true (cond (Ab 3<|nb b l' false) true false) false) false=true;rw[I0,I0];rfl):p:=h
theorem bY39 {p:Prop}(h:p:=by show cond (Ab 2 [.row 2<|shs.map psV,.row 3 nl,.row 6 tl,.row 8<|rs.map rlV]) true false=true;rw[Kz hn ht];rfl):p:=h
theorem bY40 {p:Prop}(h:p:=by show cond (Ab 0 [.row 2<|shs.map psV,.row 3 nl,.row 6 tl,.row 8<|rs.map rlV]) true false=true;rw[Kz hn ht];rfl):p:=h
theorem bY41 {p:Prop}(h:p:=by simp only;rw[hdv,List.append_assoc];exact hx):p:=h
theorem bY42 {p:Prop}(h:p:=by rw[bFn];intro e;exact h61<|UInt8.toNat_inj.1 (by have e2:(61:UInt8).toNat=61:=rfl;omega)):p:=h
theorem bY43 {p:Prop}(h:p:=by first|exact Ta|exact Wv (by decide)):p:=h
theorem bY44 {p:Prop}(h:p:=by first|exact trivial|decide|(simp[B3,Ag])):p:=h
theorem bY45 {p:Prop}(h:p:=by simp only[B9,Ab,blw,hbk,hhv,B5,C4,Cb,cond_true,Tj,lCo,lNi,lAp,Ha,List.cons_append,List.nil_append,us,List.set,Bf,C5,List.map];rfl):p:=h
theorem bY46 {p:Prop}(h:p:=by show cond (Ab 3 [.row 2<|shs.map psV,.row 3 nl,.row 6 tl,.row 8<|rs.map rlV]) (cond true (cond (cond (Ab 3<|(shs.getD i ps0).cs.map pcV) true false) true false) false) false=true;rw[Kz hn ht,Cc];rfl):p:=h
theorem bY47 {p:Prop}(h:p:=by first|(simp only[B3,Ag,and_true];rw[hR];simp only[lAp,lCo];omega)|(simp only[B3,Ag,and_true,lAp,lCo,lNi];omega)|trivial):p:=h
theorem A8s {p:Prop}(h:p:=by simp only[B3,Ag,and_true];omega):p:=h
theorem bY49 {p:Prop}(h:p:=by simp only[lAp,List.length_drop,List.length_take];omega):p:=h
theorem bY50 {p:Prop}(h:p:=by have:=M9 hq;omega):p:=h
theorem bY51 {p:Prop}(h:p:=by simp_all[C9,letterL]<;>omega):p:=h
theorem A2d {p:Prop}(h:p:=by rw[L8];simp):p:=h
theorem I5 {p:Prop}(h:p:=by cases h):p:=h
theorem bY54 {p:Prop}(h:p:=by rw[dN1];exact Ll (id:=1) (l:=[1]) (Nat.le_refl _) rfl):p:=h
theorem bY55 {p:Prop}(h:p:=by have:=ha.lenR;rw[hR]at this;simpa using this):p:=h
theorem bY56 {p:Prop}(h:p:=by rw[e8,List.append_assoc]):p:=h
theorem bY57 {p:Prop}(h:p:=by rw[show((j+1:Nat):Int)-9=e+1 by omega];exact fvI):p:=h
theorem bY58 {p:Prop}(h:p:=by rw[hl0];simp only[lCo,lNi];omega):p:=h
theorem bY59 {p:Prop}(h:p:=by first|exact pkA hc|exact pkB hc):p:=h
theorem bY60 {p:Prop}(h:p:=by rw[List.take_zero,List.flatMap_nil,List.append_nil];rfl):p:=h
theorem F6 {p:Prop}(h:p:=by rfl):p:=h
theorem A3k {p:Prop}(h:p:=by rw[P9];exact hs):p:=h
theorem bY63 {p:Prop}(h:p:=by simp only[B3,Ag,and_true];rw[hR];simp;omega):p:=h
theorem bY64 {p:Prop}(h:p:=by show _=some (ARes.val (.str t) _ _);rw[←hdt];rfl):p:=h
theorem bY65 {p:Prop}(h:p:=by simp_all[C9,Hn]<;>omega):p:=h
theorem bY66 {p:Prop}(h:p:=by rw[List.length_drop];omega):p:=h
theorem bY67 {p:Prop}(h:p:=by simp only[Rep]at hr⊢;exact⟨hr.1,hr.2.ext h⟩):p:=h
theorem A27 {p:Prop}(h:p:=by simp[blw,Nat.blt]at h):p:=h
theorem bY69 {p:Prop}(h:p:=by show(shs.getD i ps0).cs.length-(j+1)<(shs.getD i ps0).cs.length-j;omega):p:=h
theorem A8v {p:Prop}(h:p:=by simp[Ab,blw,dg,B5]):p:=h
theorem V2 {p:Prop}(h:p:=by simp[Rep]):p:=h
theorem Ad5 {p:Prop}(h:p:=by simp only[Ag,and_true,C6];omega):p:=h
theorem bY73 {p:Prop}(h:p:=by rw[←hbj',←hbj];exact hb):p:=h
theorem bY74 {p:Prop}(h:p:=by show cond (Ab 0 l) true false=true;rw[h3];rfl):p:=h
theorem bY75 {p:Prop}(h:p:=by simpa using h):p:=h
theorem bY76 {p:Prop}(h:p:=by simpa using ho):p:=h
theorem bY77 {p:Prop}(h:p:=by rw[show j+(k+1)=j+1+k by omega];exact a5):p:=h
theorem bY78 {p:Prop}(h:p:=by show shs.length-(i+1)<shs.length-i;omega):p:=h
theorem bY79 {p:Prop}(h:p:=by simp only;have:=hI.e;omega):p:=h
theorem bY80 {p:Prop}(h:p:=by rw[wrS (by omega) (by omega)];exact P0 hk (by omega) (by omega)):p:=h
theorem bY81 {p:Prop}(h:p:=by rw[wrS (by omega) (by omega)];exact P8 hk (by omega) (by omega)):p:=h
theorem bY82 {p:Prop}(h:p:=by rw[wrS (by omega) (by omega)];exact P6 hk (by omega) (by omega)):p:=h
theorem bY83 {p:Prop}(h:p:=by rw[wrS (by omega) (by omega)];exact P3 hk (by omega) (by omega)):p:=h
theorem bY84 {p:Prop}(h:p:=by show ns.length-(i+1)<ns.length-i;omega):p:=h
theorem A4d {p:Prop}(h:p:=by simp[ByteArray.size]):p:=h
theorem bY86 {p:Prop}(h:p:=by rw[←Nat.pow_add];exact Nat.pow_le_pow_right (by decide) (by decide)):p:=h
theorem bY87 {p:Prop}(h:p:=by show cond (Ab 2<|nb b l m) true false=true;rw[I0];rfl):p:=h
theorem bY88 {p:Prop}(h:p:=by rw[he,List.take_length]):p:=h
theorem bY89 {p:Prop}(h:p:=by rw[bne_iff_ne];exact h0):p:=h
theorem Aad {p:Prop}(h:p:=by simp only[frz,Tj h,cond_true]):p:=h
theorem A9s {p:Prop}(h:p:=by simp[sizeOf,E8 w hi]):p:=h
theorem bY92 {p:Prop}(h:p:=by have:=ha.lenR;simpa using this):p:=h
theorem bY93 {p:Prop}(h:p:=by simp only[blw,Nat.blt_eq]at h⊢;omega):p:=h
theorem A52 {p:Prop}(h:p:=by rw[←hh.len];simp):p:=h
theorem bY95 {p:Prop}(h:p:=by subst e;rw[ho]at hj;cases hj):p:=h
theorem bY96 {p:Prop}(h:p:=by rw[Lr,hl];exact Nat.le_refl _):p:=h
theorem bY97 {p:Prop}(h:p:=by rw[lAp,lAp,hl0,H8,Ja];simp only[lCo,lNi];omega):p:=h
theorem bY98 {p:Prop}(h:p:=by apply Array.ext';rw[hx]):p:=h
theorem bY99 {p:Prop}(h:p:=by show 1+((kp4:Nat):Int)≤4;omega):p:=h
theorem bY100 {p:Prop}(h:p:=by show 1+((kp3:Nat):Int)≤3;omega):p:=h
theorem bY101 {p:Prop}(h:p:=by show(1:Int)≤1+(kp4:Nat);omega):p:=h
theorem bY102 {p:Prop}(h:p:=by show(1:Int)≤1+(kp3:Nat);omega):p:=h
theorem bY103 {p:Prop}(h:p:=by have:=B6 hg.g hs hp hv;simpa only[Rep]using this):p:=h
theorem bY104 {p:Prop}(h:p:=by simp only[ren,Rep]at hr⊢;obtain⟨vs,rfl,h2⟩:=hr;exact⟨vs,rfl,Aa.down h cs vs hb h2⟩):p:=h
theorem bY105 {p:Prop}(h:p:=by rw[e8,←List.append_assoc];exact frS<|C4 _):p:=h
theorem bY106 {p:Prop}(h:p:=by first|exact dF (by omega)|(rw[bFn];omega)|(rw[bNf];omega)):p:=h
theorem bY107 {p:Prop}(h:p:=by show(0:Int)≤(kpn:Nat);omega):p:=h
theorem bY108 {p:Prop}(h:p:=by show(0:Int)≤(kp8:Nat);omega):p:=h
theorem bY109 {p:Prop}(h:p:=by show(0:Int)≤(kp5:Nat);omega):p:=h
theorem bY110 {p:Prop}(h:p:=by simp only[ren,Rep]at hr⊢;obtain⟨vs,rfl,h2⟩:=hr;exact⟨vs,rfl,Aa.up h cs vs h2⟩):p:=h
theorem bY111 {p:Prop}(h:p:=by first|exact trivial|decide|(simp only[B3,Ci,Ag,and_true,C6,List.length_map];omega)):p:=h
theorem Yf {p:Prop}(h:p:=by simp[Aa]):p:=h
theorem bY113 {p:Prop}(h:p:=by simp only[List.length_set];exact hl):p:=h
theorem bY114 {p:Prop}(h:p:=by rw[←Gq (H:=H) (id:=id) (jd:=jd) (at_:=.mref md) (l:=l++txB ix (ss.take i))];exact gL):p:=h
theorem bY115 {p:Prop}(h:p:=by simpa using h1):p:=h
theorem bY116 {p:Prop}(h:p:=by simpa only[blw]using hb):p:=h
theorem bY117 {p:Prop}(h:p:=by simp only[maxLen];omega):p:=h
theorem bY118 {p:Prop}(h:p:=by rw[List.take_length,e8];try rfl):p:=h
theorem Yy {p:Prop}(h:p:=by simp only[Rep]):p:=h
theorem A1s {p:Prop}(h:p:=by rw[h.blk id hid];exact r1):p:=h
theorem bY121 {p:Prop}(h:p:=by rw[List.take_zero];show us H id jd (.mref md) (l++[])=H;rw[List.append_nil];exact Vq ho hj):p:=h
theorem bY122 {p:Prop}(h:p:=by show((kpn:Nat):Int)<n;omega):p:=h
theorem bY123 {p:Prop}(h:p:=by show((kp8:Nat):Int)<8;omega):p:=h
theorem bY124 {p:Prop}(h:p:=by show((kp5:Nat):Int)<5;omega):p:=h
theorem bY125 {p:Prop}(h:p:=by simpa only[Aa]using hr):p:=h
theorem bY126 {p:Prop}(h:p:=by simp_all[C9,Us]<;>omega):p:=h
theorem bY127 {p:Prop}(h:p:=by simp[*]):p:=h
theorem A35 {p:Prop}(h:p:=by rw[hrs.size,←hn,h6]):p:=h
theorem bY129 {p:Prop}(h:p:=by rw[beq_iff_eq]at h1;exact h1):p:=h
theorem bY130 {p:Prop}(h:p:=by show ss.length-(i+1)<ss.length-i;omega):p:=h
theorem bY131 {p:Prop}(h:p:=by show rs.length-(i+1)<rs.length-i;omega):p:=h
theorem bY132 {p:Prop}(h:p:=by have e2:(61:UInt8).toNat=61:=rfl;omega):p:=h
theorem bY133 {p:Prop}(h:p:=by simp only[Rep,Aa];exact⟨[],rfl,rfl⟩):p:=h
theorem bY134 {p:Prop}(h:p:=by simp only[Ag,and_true,C6,lAp,lCo,lNi];omega):p:=h
theorem bY135 {p:Prop}(h:p:=by first|exact decide_eq_true (by omega)|(rw[beq_iff_eq];omega)|(rw[bne_iff_ne];omega)):p:=h
theorem bY136 {p:Prop}(h:p:=by simpa using hj):p:=h
theorem bY137 {p:Prop}(h:p:=by simp[B4,Y2,A1k,A3d,Wg];exact hs):p:=h
theorem Ac0 {p:Prop}(h:p:=by rw[Kq pc0 hjl,←List.append_assoc]):p:=h
theorem bY139 {p:Prop}(h:p:=by rw[decide_eq_true hsy];rfl):p:=h
theorem bY140 {p:Prop}(h:p:=by have:=hI.len;simp only[lAp,lCo,lNi];omega):p:=h
theorem bY141 {p:Prop}(h:p:=by rw[hb];exact hb1):p:=h
theorem bY142 {p:Prop}(h:p:=by rw[List.length_set];omega):p:=h
theorem A6p {p:Prop}(h:p:=by rw[←hR];exact ha.ascR):p:=h
theorem Aay {p:Prop}(h:p:=by rw[IntKind.wrap_u8];omega):p:=h
theorem bY145 {p:Prop}(h:p:=by simp only[Ag,C6,and_true,lAp,List.length_replicate];omega):p:=h
theorem Yv {p:Prop}(h:p:=by cases dst<;>rfl):p:=h
theorem bY147 {p:Prop}(h:p:=by rw[sRb,hg,rAo];simp only[binOp,Op.shift,if_neg h0];rfl):p:=h
theorem bY148 {p:Prop}(h:p:=by rw[←hN];congr 1;omega):p:=h
theorem bY149 {p:Prop}(h:p:=by simpa using hk):p:=h
theorem Ab9 {p:Prop}(h:p:=by simp[zeroValue,E8 w hi,hzz]):p:=h
theorem bY151 {p:Prop}(h:p:=by simp only[Rf,lAp,lCo,lNi];omega):p:=h
theorem bY152 {p:Prop}(h:p:=by simp only[V7,lAp,lCo,lNi];omega):p:=h
theorem bY153 {p:Prop}(h:p:=by simp only[V4,lAp,lCo,lNi];omega):p:=h
theorem bY154 {p:Prop}(h:p:=by simp only[Va,lAp,lCo,lNi];omega):p:=h
theorem bY155 {p:Prop}(h:p:=by simp only[Vd,lAp,lCo,lNi];omega):p:=h
theorem bY156 {p:Prop}(h:p:=by simp only[Vb,lAp,lCo,lNi];omega):p:=h
theorem bY157 {p:Prop}(h:p:=by rw[List.take_zero,List.flatMap_nil,List.append_nil];exact frS<|C4 _):p:=h
theorem A69 {p:Prop}(h:p:=by simp[blw,Nat.blt_eq]at h):p:=h
theorem bY159 {p:Prop}(h:p:=by simp only[bd9,lAp,lCo,lNi];omega):p:=h
theorem bY160 {p:Prop}(h:p:=by simp only[bd8,lAp,lCo,lNi];omega):p:=h
theorem bY161 {p:Prop}(h:p:=by simp only[bd7,lAp,lCo,lNi];omega):p:=h
theorem bY162 {p:Prop}(h:p:=by simp only[bd6,lAp,lCo,lNi];omega):p:=h
theorem bY163 {p:Prop}(h:p:=by simp only[bd5,lAp,lCo,lNi];omega):p:=h
theorem bY164 {p:Prop}(h:p:=by simp only[bd4,lAp,lCo,lNi];omega):p:=h
theorem bY165 {p:Prop}(h:p:=by simp only[bd3,lAp,lCo,lNi];omega):p:=h
theorem bY166 {p:Prop}(h:p:=by simp only[bd2,lAp,lCo,lNi];omega):p:=h
theorem bY167 {p:Prop}(h:p:=by simp only[bd1,lAp,lCo,lNi];omega):p:=h
theorem bY168 {p:Prop}(h:p:=by simp only[bd0,lAp,lCo,lNi];omega):p:=h
theorem bY169 {p:Prop}(h:p:=by simp only[B3,Ag,and_true,lCo,lNi];omega):p:=h
theorem bY170 {p:Prop}(h:p:=by have:=A6c s 1;omega):p:=h
theorem bY171 {p:Prop}(h:p:=by simp only[Rep];exact⟨_,rfl⟩):p:=h
theorem bY172 {p:Prop}(h:p:=by rw[w64 (by omega) (by omega)];omega):p:=h
theorem Adi {p:Prop}(h:p:=by rw[lAp,Ao];omega):p:=h
theorem bY174 {p:Prop}(h:p:=by simp only[binOp,ne_eq,not_true,if_false,Op.intDiv,if_neg<|nz hs.1];rfl):p:=h
theorem Aa5 {p:Prop}(h:p:=by simpa only[Rep]using hr):p:=h
theorem A6l {p:Prop}(h:p:=by simp[Region.wanted,hgd]):p:=h
theorem bY177 {p:Prop}(h:p:=by apply Array.ext';rw[hy]):p:=h
theorem bY178 {p:Prop}(h:p:=by simp only[lCo];omega):p:=h
theorem Qz {p:Prop}(h:p:=by simp at h):p:=h
theorem bY180 {p:Prop}(h:p:=by simp_all[C9,G9]<;>omega):p:=h
theorem bY181 {p:Prop}(h:p:=by show 19-(n+1)<19-n;omega):p:=h
theorem bY182 {p:Prop}(h:p:=by rw[e8];simp only[←List.append_assoc];exact frS<|C4 _):p:=h
theorem bY183 {p:Prop}(h:p:=by have:=List.length_pos_iff.2 hne;simp only[Ag,and_true];omega):p:=h
theorem bY184 {p:Prop}(h:p:=by show i+1≤ns.length;omega):p:=h
theorem bY185 {p:Prop}(h:p:=by rw[List.take_zero];first|rfl|exact(List.append_nil _).symm):p:=h
theorem Abd {p:Prop}(h:p:=by show SP.mayB _ 32 1=true;rfl):p:=h
theorem bY187 {p:Prop}(h:p:=by rw[J8];exact Nat.beq_refl _):p:=h
theorem bY188 {p:Prop}(h:p:=by simpa[envOf]using h3):p:=h
theorem bY189 {p:Prop}(h:p:=by simpa[envOf]using a6):p:=h
theorem bY190 {p:Prop}(h:p:=by rw[List.length_set];exact hcl):p:=h
theorem bY191 {p:Prop}(h:p:=by simpa using he):p:=h
theorem bY192 {p:Prop}(h:p:=by rw[←hDD];exact Jr d e):p:=h
theorem bY193 {p:Prop}(h:p:=by apply Array.ext';simpa using k5):p:=h
theorem A33 {p:Prop}(h:p:=by exact trivial):p:=h
theorem bY195 {p:Prop}(h:p:=by rw[h2];exact hr1):p:=h
theorem A9v {p:Prop}(h:p:=by as_aux_lemma=>rfl):p:=h
theorem Ys {p:Prop}(h:p:=by simp[u8c]):p:=h
theorem bY198 {p:Prop}(h:p:=by simpa using ha):p:=h
theorem bY199 {p:Prop}(h:p:=by rw[hr];exact hxs):p:=h
theorem bY200 {p:Prop}(h:p:=by simp only[Ab,blw,hC];rfl):p:=h
theorem bY201 {p:Prop}(h:p:=by simp only[Rep];exact⟨[],rfl,by simp[Aa]⟩):p:=h
theorem bY202 {p:Prop}(h:p:=by simp only[lAp,lCo];omega):p:=h
theorem bY203 {p:Prop}(h:p:=by rw[Ij hTe];exact setRow_heap w bb _ _ T (0,0) hcell):p:=h
theorem Ac9 {p:Prop}(h:p:=by as_aux_lemma=>kernel_rfl):p:=h
theorem bY205 {p:Prop}(h:p:=by show cond (Ab 0 nd) true false=true;rw[h3];rfl):p:=h
theorem bY206 {p:Prop}(h:p:=by show(sel.map _).length=_;rw[List.length_map,hs.len]):p:=h
theorem bY207 {p:Prop}(h:p:=by first|omega|(simp only[List.length_drop];omega)):p:=h
theorem bY208 {p:Prop}(h:p:=by rw[hcl];simp):p:=h
theorem Ac8 {p:Prop}(h:p:=by rw[A1t,Nat.mul_one]):p:=h
theorem Abl {p:Prop}(h:p:=by rw[lAp];rfl):p:=h
theorem bY211 {p:Prop}(h:p:=by simp only[B3,Ci,Ag,and_true];omega):p:=h
theorem Z.{u}{α:Sort u}{a:α}:a=a:=rfl
theorem O :True:=trivial
end Go.Abs
namespace Go.Abs
open Go
abbrev Bz :Type:=List UInt8
abbrev iS :=@Option.some.injEq
abbrev lCo :=@List.length_cons
abbrev lAp :=@List.length_append
abbrev lNi :=@List.length_nil
abbrev nBq :=@Nat.eq_of_beq_eq_true
abbrev dFn :=@decide_eq_false_iff_not
abbrev bFn :=@beq_eq_false_iff_ne
abbrev iP :=@Prod.mk.injEq
abbrev bAt :=@Bool.and_eq_true
abbrev dTe :=@decide_eq_true_eq
abbrev rAo :=@Result.andThen_ok
abbrev bNf :=@bne_eq_false_iff_eq
abbrev gSi :=@List.getElem?_eq_some_iff
abbrev oBi :=@Option.bind_eq_some_iff
abbrev gGe :=@List.getElem?_eq_getElem
abbrev oBb :=@Option.bind_eq_bind
abbrev mGe :=@List.mem_of_getElem?
abbrev lAt :=@List.all_eq_true
abbrev nLl :=@Nat.lt_of_lt_of_le
abbrev bFt :=@Bool.false_eq_true
abbrev dF :=@decide_eq_false
abbrev sRb :=@Sem.run_bind
abbrev aSi :=@Array.getElem?_eq_some_iff
end Go.Abs
namespace Go.Abs
open Go.RowKit
variable {F : Nat → Prop}
inductive AVal where
 |bool (b:Bool)|int (k:IntKind) (n:Int)|str (s:Bz)|agg (cs:List AVal)|tup (vs:List AVal)|nilSl|emp|row (k:Nat) (es:List AVal)|hsl (k id off len:Nat) (cap:Option Nat)|nilPtr|ptr (id off:Nat)|optr (id off len:Nat)|eptr (e:AVal) (off:Nat)|fn (f:FuncId) (first cap:List AVal)
 |nilFn|iface (t:TypeId) (v:AVal)|nilIf|mref (id:Nat)|nilMp
inductive HObj where
 |cells (T:TypeId) (cs:List AVal) (op:Bool)|iter (s:Bz) (pos:Nat)|mp (es:List<|Bz×Int)|dead
abbrev Hz :Type:=List HObj
def AVal.cells :AVal→List AVal
 |.agg cs=>cs|v=>[v]
def D4 (w:World)(b:Nat):Nat:=match w.heap[b]? with|some (.cells c _ _)=>c.size|_=>0
def flat (vs:List Value):List Value:=vs.flatMap λu=>u.cells.toList
def I7 (F:Nat→Prop)(bs:List Nat)(w:World)(a:Option Addr)(vs:List Value)(cap:Nat):Prop:=match a with|none=>vs=[]∧cap=0|some a=>a.spot=none∧vs.length≤cap∧∀j u,(flat vs)[j]?=some u→(a.block∉bs∧¬F a.block)∧w.cell? ⟨a.block,a.off+j,none⟩=some u
def Ce (bs:List Nat)(H:Hz)(w:World)(k id off len:Nat)(cap:Option Nat)(v:Value):Prop:=
 match H[id]? with
 |some (.cells _ cs op)=>off+len*k≤cs.length∧
  ((op=true→off=0∧len*k=cs.length)→
   ∃b c,bs[id]?=some b∧v= .slice (some ⟨b,off,none⟩) len c∧len≤c∧(∀c',cap=some c'→c=c')∧(op=true→c≤maxLen∧c*k=D4 w b))
 |some .dead=>True|_=>False
def Ey (bs:List Nat)(H:Hz)(id off:Nat)(v:Value):Prop:=match H[id]? with|some (.cells _ _ false)=>∃b,bs[id]?=some b∧v= .pointer (some ⟨b,off,none⟩)|some (.iter _ _)=>∃b,bs[id]?=some b∧v= .pointer (some ⟨b,off,none⟩)|some .dead=>True|_=>False
def Fq (bs:List Nat)(H:Hz)(id off len:Nat)(v:Value):Prop:=match H[id]? with|some (.cells _ cs true)=>len≤cs.length∧(cs.length=len→∃b,bs[id]?=some b∧v= .pointer (some ⟨b,off,none⟩))|some .dead=>True|_=>False
def Jb :Nat→List (Bz×Int)→List MapEntry
 |_,[]=>[]|n,(k,v)::r=>{key:=.string ⟨k.toArray⟩,val:=.int .i64 v,born:=n}::Jb (n+1) r
def H5 (bs:List Nat)(H:Hz)(id:Nat)(v:Value):Prop:=match H[id]? with|some (.mp _)=>∃b,bs[id]?=some b∧v= .map (some b)|some .dead=>True|_=>False
mutual
def Rep (F : Nat → Prop) (bs : List Nat) (H : Hz) (w : World) : AVal → Value → Prop
  | .bool b, v => v = .bool b
  | .int k n, v => v = .int k n
  | .str s, v => v = .string ⟨s.toArray⟩
  | .agg cs, v => ∃ vs : List Value, v = .agg vs.toArray ∧ Aa F bs H w cs vs
  | .tup cs, v => ∃ vs : List Value, v = .tuple vs.toArray ∧ Aa F bs H w cs vs
  | .nilSl, v => v = .slice none 0 0
  | .emp, v => ∃ a, v = .slice (some a) 0 0
  | .row k es, v => ∃ a cap vs, v = .slice a es.length cap ∧ Aa F bs H w es vs ∧ (∀ u ∈ vs, u.cells.size = k) ∧ I7 F bs w a vs cap
  | .hsl k id off len cap, v => (∃ a c, len ≤ c ∧ v = .slice (some a) len c) ∧ Ce bs H w k id off len cap v
  | .nilPtr, v => v = .pointer none
  | .ptr id off, v => (∃ a, v = .pointer (some a)) ∧ Ey bs H id off v
  | .optr id off len, v => (∃ a, v = .pointer (some a)) ∧ Fq bs H id off len v
  | .eptr e off, v => ∃ b base u, v = .pointer (some ⟨b, base + off, none⟩) ∧ Rep F bs H w e u ∧ (b ∉ bs ∧ ¬ F b) ∧ b < w.heap.size ∧ ∀ j x, u.cells.toList[j]? = some x → w.cell? ⟨b, base + j, none⟩ = some x
  | .fn f first cap, v => ∃ fs cs : List Value, v = .func (.func f) fs.toArray cs.toArray ∧ Aa F bs H w first fs ∧ Aa F bs H w cap cs
  | .nilFn, v => v = .nilFunc
  | .iface t x, v => ∃ u, v = .iface t u ∧ Rep F bs H w x u
  | .nilIf, v => v = .nilIface
  | .nilMp, v => v = .map none
  | .mref id, v => (∃ b, v = .map (some b)) ∧ H5 bs H id v
def Aa (F : Nat → Prop) (bs : List Nat) (H : Hz) (w : World) : List AVal → List Value → Prop
  | [], vs => vs = []
  | a :: az, vs => ∃ u us, vs = u :: us ∧ Rep F bs H w a u ∧ Aa F bs H w az us
end
def Bd (bs bs':List Nat)(w w':World)(i:Nat):HObj→HObj→Prop
 |.cells _ cs false,o'=>o'= .dead∨∃T' cs',o'= .cells T' cs' false∧cs'.length=cs.length∧bs'[i]?=bs[i]?|.cells _ cs true,o'=>o'= .dead∨∃T' cs',o'= .cells T' cs' true∧(cs.length<cs'.length∨cs'.length=cs.length∧bs'[i]?=bs[i]?∧∀b,bs[i]?=some b→D4 w' b=D4 w b)|.iter _ _,o'=>o'= .dead∨∃s p,o'= .iter s p∧bs'[i]?=bs[i]?|.mp _,o'=>o'= .dead∨∃es,o'= .mp es∧bs'[i]?=bs[i]?|.dead,o'=>o'= .dead
structure Ext (bs:List Nat)(H:Hz)(w:World)(bs':List Nat)(H':Hz)(w':World):Prop where
 size:w.heap.size≤w'.heap.size
 block:∀k,k<w.heap.size→k∉bs→w'.heap[k]?=w.heap[k]?
 new:∀k,k∈bs'→k∈bs∨w.heap.size≤k
 obj:∀i o,H[i]?=some o→∃o',H'[i]?=some o'∧Bd bs bs' w w' i o o'
theorem I7.extF {F F':Nat→Prop}{bs bs':List Nat}{H H':Hz}{w w':World}(h:Ext bs H w bs' H' w')(hF:∀k,k<w.heap.size→k∉bs→¬F k→¬F' k){a:Option Addr}{vs:List Value}{cap:Nat}
 (hr:I7 F bs w a vs cap):I7 F' bs' w' a vs cap:=by
 cases a with
 |none=>exact hr
 |some a=>
  obtain⟨h1,h2,h3⟩:=hr;refine⟨h1,h2,λj u hj=>?_⟩;obtain⟨⟨hn,hnF⟩,hc⟩:=h3 j u hj;have hlt:a.block<w.heap.size:=World.block_lt_of_cell? w ⟨a.block,a.off+j,none⟩ hc;refine⟨⟨λhm=>?_,hF _ hlt hn hnF⟩,?_⟩;·rcases h.new _ hm with h'|h'<;>grind
  ·rw[←hc];exact World.cell?_of_block (a:=⟨a.block,a.off+j,none⟩)<|h.block _ hlt hn
theorem Ce.ext {bs bs':List Nat}{H H':Hz}{w w':World}(h:Ext bs H w bs' H' w'){k id off len:Nat}{cap:Option Nat}{v:Value}
 (hr:Ce bs H w k id off len cap v):Ce bs' H' w' k id off len cap v:=by
 unfold Ce at hr⊢;cases ho:H[id]? with
 |none=>simp[ho]at hr
 |some o=>
  obtain⟨o',ho',hm⟩:=h.obj id o ho;rw[ho]at hr;rw[ho'];cases o with
  |dead=>simp only[Bd]at hm;subst hm;trivial|iter s p=>simp at hr|mp es=>simp at hr
  |cells T cs op=>
   cases op with
   |false=>
    rcases hm with rfl|⟨T',cs',rfl,hl,hb⟩;·trivial
    ·grind
   |true=>
    rcases hm with rfl|⟨T',cs',rfl,hl⟩;·trivial
    ·grind
theorem Ey.ext {bs bs':List Nat}{H H':Hz}{w w':World}(h:Ext bs H w bs' H' w'){id off:Nat}{v:Value}
 (hr:Ey bs H id off v):Ey bs' H' id off v:=by
 unfold Ey at hr⊢;cases ho:H[id]? with
 |none=>simp[ho]at hr
 |some o=>
  obtain⟨o',ho',hm⟩:=h.obj id o ho;rw[ho]at hr;rw[ho'];cases o with
  |dead=>simp only[Bd]at hm;subst hm;trivial|mp es=>simp at hr
  |iter s p=>
   rcases hm with rfl|⟨s',p',rfl,hb⟩;·trivial
   ·grind
  |cells T cs op=>
   cases op with
   |false=>
    rcases hm with rfl|⟨T',cs',rfl,hl,hb⟩;·trivial
    ·grind
   |true=>simp at hr
theorem Fq.ext {bs bs':List Nat}{H H':Hz}{w w':World}(h:Ext bs H w bs' H' w'){id off len:Nat}{v:Value}
 (hr:Fq bs H id off len v):Fq bs' H' id off len v:=by
 unfold Fq at hr⊢;cases ho:H[id]? with
 |none=>simp[ho]at hr
 |some o=>
  obtain⟨o',ho',hm⟩:=h.obj id o ho;rw[ho]at hr;rw[ho'];cases o with
  |dead=>simp only[Bd]at hm;subst hm;trivial|iter s p=>simp at hr|mp es=>simp at hr
  |cells T cs op=>
   cases op with
   |false=>simp at hr
   |true=>
    rcases hm with rfl|⟨T',cs',rfl,hl⟩;·trivial
    ·grind
theorem H5.ext {bs bs':List Nat}{H H':Hz}{w w':World}(h:Ext bs H w bs' H' w'){id:Nat}{v:Value}
 (hr:H5 bs H id v):H5 bs' H' id v:=by
 unfold H5 at hr⊢;cases ho:H[id]? with
 |none=>simp[ho]at hr
 |some o=>
  obtain⟨o',ho',hm⟩:=h.obj id o ho;rw[ho]at hr;rw[ho'];cases o with
  |dead=>simp only[Bd]at hm;subst hm;trivial|iter s p=>simp at hr|cells T cs op=>simp at hr
  |mp es=>
   rcases hm with rfl|⟨es',rfl,hb⟩;·trivial
   ·grind
mutual
theorem Rep.extF {F F' : Nat → Prop} {bs bs' : List Nat} {H H' : Hz} {w w' : World} (h : Ext bs H w bs' H' w') (hF : ∀ k, k < w.heap.size → k ∉ bs → ¬ F k → ¬ F' k) : ∀ (a : AVal) (v : Value), Rep F bs H w a v → Rep F' bs' H' w' a v
  | .bool _, _, hr | .int _ _, _, hr | .str _, _, hr | .nilSl, _, hr | .emp, _, hr | .nilPtr, _, hr | .nilFn, _, hr | .nilIf, _, hr | .nilMp, _, hr => Aa5
  | .agg cs, _, hr => by
    simp only [Rep] at hr ⊢
    obtain ⟨vs, hv, hl⟩ := hr
    exact ⟨vs, hv, Aa.extF h hF cs vs hl⟩
  | .tup cs, _, hr => by
    simp only [Rep] at hr ⊢
    obtain ⟨vs, hv, hl⟩ := hr
    exact ⟨vs, hv, Aa.extF h hF cs vs hl⟩
  | .row k es, _, hr => by
    simp only [Rep] at hr ⊢
    obtain ⟨a, cap, vs, hv, hl, hk, hrow⟩ := hr
    exact ⟨a, cap, vs, hv, Aa.extF h hF es vs hl, hk, hrow.extF h hF⟩
  | .hsl k id off len cap, _, hr => bY67
  | .ptr id off, _, hr => bY67
  | .mref id, _, hr => bY67
  | .optr id off len, _, hr => bY67
  | .eptr e off, _, hr => by
    simp only [Rep] at hr ⊢
    obtain ⟨b, base, u, hv, he, ⟨hb, hnF⟩, hlt, hc⟩ := hr
    refine ⟨b, base, u, hv, Rep.extF h hF e u he, ⟨fun hm => ?_, hF _ hlt hb hnF⟩, nLl hlt h.size, fun j x hx => ?_⟩
    · rcases h.new _ hm with h' | h'
      · exact hb h'
      · omega
    · rw [← hc j x hx]
      exact World.cell?_of_block (a := ⟨b, base + j, none⟩) (h.block _ hlt hb)
  | .fn f first cap, _, hr => by
    simp only [Rep] at hr ⊢
    obtain ⟨fs, cs, hv, h1, h2⟩ := hr
    exact ⟨fs, cs, hv, Aa.extF h hF first fs h1, Aa.extF h hF cap cs h2⟩
  | .iface t x, _, hr => by
    simp only [Rep] at hr ⊢
    obtain ⟨u, hv, hx⟩ := hr
    exact ⟨u, hv, Rep.extF h hF x u hx⟩
theorem Aa.extF {F F' : Nat → Prop} {bs bs' : List Nat} {H H' : Hz} {w w' : World} (h : Ext bs H w bs' H' w') (hF : ∀ k, k < w.heap.size → k ∉ bs → ¬ F k → ¬ F' k) : ∀ (az : List AVal) (vs : List Value), Aa F bs H w az vs → Aa F' bs' H' w' az vs
  | [], _, hr => bY125
  | a :: az, _, hr => by
    simp only [Aa] at hr ⊢
    obtain ⟨u, us, hv, h1, h2⟩ := hr
    exact ⟨u, us, hv, Rep.extF h hF a u h1, Aa.extF h hF az us h2⟩
end
theorem Rep.ext {bs bs':List Nat}{H H':Hz}{w w':World}(h:Ext bs H w bs' H' w')(a:AVal)(v:Value)(hr:Rep F bs H w a v):Rep F bs' H' w' a v:=Rep.extF h (λ_ _ _ h=>h) a v hr
theorem Aa.ext {bs bs':List Nat}{H H':Hz}{w w':World}(h:Ext bs H w bs' H' w')(az:List AVal)(vs:List Value)(hr:Aa F bs H w az vs):Aa F bs' H' w' az vs:=Aa.extF h (λ_ _ _ h=>h) az vs hr
theorem Bd.refl (bs:List Nat)(w:World)(i:Nat)(o:HObj):Bd bs bs w w i o o:=by cases o with|dead=>simp[Bd]|iter s p=>exact .inr ⟨s,p,rfl,rfl⟩|mp es=>exact .inr ⟨es,rfl,rfl⟩|cells T cs op=>cases op with|false=>exact .inr ⟨T,cs,rfl,rfl,rfl⟩|true=>exact .inr ⟨T,cs,rfl,.inr ⟨rfl,rfl,λ_ _=>rfl⟩⟩
theorem Ext.refl (bs:List Nat)(H:Hz)(w:World):Ext bs H w bs H w:=⟨Nat.le_refl _,λ_ _ _=>rfl,λ_ h=>.inl h,λi o h=>⟨o,h,Bd.refl bs w i o⟩⟩
theorem Bd.trans {bs bs' bs'':List Nat}{w w' w'':World}{i:Nat}{o o' o'':HObj}(h:Bd bs bs' w w' i o o')(k:Bd bs' bs'' w' w'' i o' o''):Bd bs bs'' w w'' i o o'':=by
 cases o with
 |dead=>simp only[Bd]at h;subst h;simp only[Bd]at k;simp[Bd,k]
 |iter s p=>
  rcases h with rfl|⟨s',p',rfl,hb⟩;·grind[Bd]
  ·grind[Bd]
 |mp es=>
  rcases h with rfl|⟨es',rfl,hb⟩;·grind[Bd]
  ·grind[Bd]
 |cells T cs op=>
  cases op with
  |false=>
   rcases h with rfl|⟨T',cs',rfl,hl,hb⟩;·grind[Bd]
   ·grind[Bd]
  |true=>
   rcases h with rfl|⟨T',cs',rfl,hl⟩;·grind[Bd]
   ·grind[Bd]
theorem Ext.trans {bs bs' bs'':List Nat}{H H' H'':Hz}{w w' w'':World}(h:Ext bs H w bs' H' w')(k:Ext bs' H' w' bs'' H'' w''):Ext bs H w bs'' H'' w'':=by
 refine⟨Nat.le_trans h.size k.size,λi hi hn=>?_,λi hi=>?_,λi o ho=>?_⟩;·rw[k.block i (nLl hi h.size)<|λhm=>?_,h.block i hi hn];rcases h.new i hm with h'|h'<;>grind
 ·rcases k.new i hi with h'|h';·exact h.new i h'
  ·exact .inr<|Nat.le_trans h.size h'
 ·obtain⟨o',ho',hm⟩:=h.obj i o ho;obtain⟨o'',ho'',hm'⟩:=k.obj i o' ho';exact⟨o'',ho'',hm.trans hm'⟩
def A01 (T:TypeId):TypeId:=cond (Nat.blt T 1000000) T<|T-1000000
theorem Ij {T:TypeId}(h:Nat.blt T 1000000=true):A01 T=T:=by grind[A01]
def Ik (F:Nat→Prop)(bs:List Nat)(H:Hz)(w:World)(b:Nat):HObj→Prop
 |.cells T cs false=>∃(vs rest:List Value) (fr:Nat×Nat),w.heap[b]?=some (.cells (vs++rest).toArray T fr)∧Aa F bs H w cs vs∧∀j,j<vs.length→¬(fr.1≤j∧j<fr.2)|.cells T cs true=>∃(vs rest:List Value) (fr:Nat×Nat),w.heap[b]?=some (.cells (vs++rest).toArray (A01 T) fr)∧Aa F bs H w cs vs∧(Nat.blt T 1000000=true→fr=(0,0))|.iter s pos=>w.heap[b]?=some (.stringIter ⟨s.toArray⟩ pos)|.mp es=>w.heap[b]?=some (.map (Jb 0 es).toArray es.length)|.dead=>True
structure Ad (W0:World)(F:Nat→Prop)(bs:List Nat)(H:Hz)(w:World):Prop where
 len:bs.length=H.length
 base:Below W0.heap.size W0 w
 low:∀b,b∈bs→W0.heap.size≤b∧b<w.heap.size
 nodup:bs.Nodup
 forb:∀b,F b→W0.heap.size≤b∧b<w.heap.size∧b∉bs
 obj:∀(i:Nat) (o:HObj) (b:Nat),H[i]?=some o→bs[i]?=some b→Ik F bs H w b o
theorem Ad.ext0 {W0:World}{bs:List Nat}{H:Hz}{w:World}(h:Ad W0 F bs H w):Ext [] [] W0 bs H w:=⟨h.base.size,λk hk _=>h.base.block k hk,λk hk=>.inr (h.low k hk).1,λi o ho=>by simp at ho⟩
theorem Ik.ext {bs bs':List Nat}{H H':Hz}{w w':World}(h:Ext bs H w bs' H' w'){b:Nat}{o:HObj}(hb:w'.heap[b]?=w.heap[b]?)(ho:Ik F bs H w b o):Ik F bs' H' w' b o:=by
 cases o with
 |dead=>trivial|iter s p=>simp only[Ik]at ho⊢;rw[hb];exact ho|mp es=>simp only[Ik]at ho⊢;rw[hb];exact ho
 |cells T cs op=>
  cases op with
  |false=>obtain⟨vs,rest,fr,h1,h2,h3⟩:=ho;exact⟨vs,rest,fr,by grind,Aa.ext h cs vs h2,h3⟩
  |true=>obtain⟨vs,rest,fr,h1,h2,h3⟩:=ho;exact⟨vs,rest,fr,by grind,Aa.ext h cs vs h2,h3⟩
theorem Ext.alloc {bs:List Nat}{H:Hz}{w:World}(hl:bs.length=H.length)(hlow:∀b,b∈bs→b<w.heap.size)(o:Obj)(ho:HObj):
 Ext bs H w (bs++[w.heap.size]) (H++[ho]) (w.alloc o):=by
 refine⟨Ax,λk hk _=>?_,λk hk=>?_,λi x hx=>⟨x,?_,?_⟩⟩;·exact Below.heap_alloc w o k hk
 ·grind
 ·grind
 ·have hi:i<H.length:=(List.getElem?_eq_some_iff.1 hx).1;have hb:(bs++[w.heap.size])[i]?=bs[i]?:=List.getElem?_append_left Y;have hz:∀b,bs[i]?=some b→D4 (w.alloc o) b=D4 w b:=λb hb=>by grind[D4,Below.heap_alloc]
  cases x with|dead=>simp[Bd]|iter s p=>exact .inr ⟨s,p,rfl,hb⟩|mp es=>exact .inr ⟨es,rfl,hb⟩|cells T cs op=>cases op with|false=>exact .inr ⟨T,cs,rfl,rfl,hb⟩|true=>exact .inr ⟨T,cs,rfl,.inr ⟨rfl,hb,hz⟩⟩
theorem Ad.alloc {W0:World}{bs:List Nat}{H:Hz}{w:World}(h:Ad W0 F bs H w)(o:Obj)(ho:HObj)
 (hobj:Ik F (bs++[w.heap.size]) (H++[ho]) (w.alloc o) w.heap.size ho):Ad W0 F (bs++[w.heap.size]) (H++[ho]) (w.alloc o):=by
 have he:=Ext.alloc h.len (λb hb=>(h.low b hb).2) o ho;refine⟨by simp[h.len],h.base.alloc h.base.size o,λb hb=>?_,?_,λb hb=>?_,λi x b hx hb=>?_⟩
 ·rcases List.mem_append.1 hb with h'|h';·have:=h.low b h';simp;omega
  ·simp at h';subst h';simp;exact h.base.size
 ·rw[List.nodup_append];refine⟨h.nodup,Ax,λa ha b hb=>?_⟩;simp at hb;have:=(h.low a ha).2;omega
 ·obtain⟨h1,h2,h3⟩:=h.forb b hb;refine⟨h1,L2,λhm=>?_⟩;grind
 ·by_cases hi:i<H.length;·rw[List.getElem?_append_left hi]at hx;rw[List.getElem?_append_left (by rw[h.len];exact hi)]at hb;exact(h.obj i x b hx hb).ext he (Below.heap_alloc w o b (h.low b<|mGe hb).2)
  ·have hi':i=H.length:=by grind
   subst hi';simp at hx;rw[←h.len]at hb;grind
theorem Du {l:List Nat}(h:l.Nodup){i j c:Nat}(hi:l[i]?=some c)(hj:l[j]?=some c):i=j:=by grind[List.pairwise_iff_getElem]
theorem Ext.upd {bs:List Nat}{H:Hz}{w w':World}(hnd:bs.Nodup){i b:Nat}{o o':HObj}(ho:H[i]?=some o)(hb:bs[i]?=some b)
 (hsz:w'.heap.size=w.heap.size) (hother:∀k,k≠b→w'.heap[k]?=w.heap[k]?) (hoe:Bd bs bs w w' i o o'):Ext bs H w bs (H.set i o') w':=by
 refine⟨Y,λk _ hk=>hother k<|λe=>hk<|e▸mGe hb,λk hk=>.inl hk,λj x hx=>?_⟩;by_cases hij:j=i;·grind
 ·refine⟨x,by grind,?_⟩;have hz:∀c,bs[j]?=some c→D4 w' c=D4 w c:=λc hc=>by grind[Du,D4]
  cases x with|dead=>simp[Bd]|iter s p=>exact .inr ⟨s,p,rfl,rfl⟩|mp es=>exact .inr ⟨es,rfl,rfl⟩|cells T cs op=>cases op with|false=>exact .inr ⟨T,cs,rfl,rfl,rfl⟩|true=>exact .inr ⟨T,cs,rfl,.inr ⟨rfl,rfl,hz⟩⟩
theorem Ad.upd {W0:World}{bs:List Nat}{H:Hz}{w w':World}(h:Ad W0 F bs H w){i b:Nat}{o o':HObj}(ho:H[i]?=some o)(hb:bs[i]?=some b)
 (hw:Below W0.heap.size w w')
 (hsz:w'.heap.size=w.heap.size) (hother:∀k,k≠b→w'.heap[k]?=w.heap[k]?) (hoe:Bd bs bs w w' i o o')
 (hok:Ik F bs (H.set i o') w' b o'):Ad W0 F bs (H.set i o') w':=by
 have he:=Ext.upd h.nodup ho hb hsz hother hoe;refine⟨by simp[h.len],h.base.trans hw,λc hc=>by have:=h.low c hc;omega,h.nodup,λc hc=>by have:=h.forb c hc;grind,λj x c hx hc=>?_⟩;by_cases hij:j=i;·grind
 ·rw[List.getElem?_set_ne<|Ne.symm hij]at hx;have hcb:c≠b:=λe=>by subst e;exact hij (Du h.nodup hc hb)
  exact(h.obj j x c hx hc).ext he<|hother c hcb
theorem Aa.length {bs:List Nat}{H:Hz}{w:World}:∀{az:List AVal}{vs:List Value},Aa F bs H w az vs→vs.length=az.length
 | [],_,h=>by simp only[Aa]at h;subst h;rfl|_::az,_,h=>by simp only[Aa]at h;obtain⟨u,us,rfl,_,h2⟩:=h;simp[Aa.length h2]
theorem Aa.append {bs:List Nat}{H:Hz}{w:World}:∀{az:List AVal}{vs:List Value}{az':List AVal}{vs':List Value},Aa F bs H w az vs→Aa F bs H w az' vs'→Aa F bs H w (az++az') (vs++vs')
 | [],_,_,_,h,h'=>by simp only[Aa]at h;subst h;simpa using h'|_::az,_,_,_,h,h'=>by simp only[Aa]at h;obtain⟨u,us,rfl,h1,h2⟩:=h;simp only[List.cons_append,Aa];exact⟨u,_,Z,h1,Aa.append h2 h'⟩
theorem Aa.drop {bs:List Nat}{H:Hz}{w:World}:∀{az:List AVal}{vs:List Value} (n:Nat),Aa F bs H w az vs→Aa F bs H w (az.drop n) (vs.drop n)
 |_,_,0,h=>bY75| [],_,n+1,h=>by simp only[Aa]at h;subst h;simp[Aa]|_::az,_,n+1,h=>by simp only[Aa]at h;obtain⟨u,us,rfl,h1,h2⟩:=h;simpa using Aa.drop n h2
theorem Aa.take {bs:List Nat}{H:Hz}{w:World}:∀{az:List AVal}{vs:List Value} (n:Nat),Aa F bs H w az vs→Aa F bs H w (az.take n) (vs.take n)
 |_,_,0,h=>Yf| [],_,n+1,h=>by simp only[Aa]at h;subst h;simp[Aa]|_::az,_,n+1,h=>by simp only[Aa]at h;obtain⟨u,us,rfl,h1,h2⟩:=h;simp only[List.take_succ_cons,Aa];exact⟨u,_,Z,h1,Aa.take n h2⟩
theorem Aa.get {bs:List Nat}{H:Hz}{w:World}:∀{az:List AVal}{vs:List Value}{i:Nat}{x:AVal},Aa F bs H w az vs→az[i]?=some x→∃u,vs[i]?=some u∧Rep F bs H w x u
 | [],_,_,_,_,hx=>by simp at hx|a::az,_,i,x,h,hx=>by simp only[Aa]at h;obtain⟨u,us,rfl,h1,h2⟩:=h;cases i with|zero=>simp at hx;subst hx;exact⟨u,rfl,h1⟩|succ i=>exact Aa.get (i:=i) h2 (by simpa using hx)
def AVal.one :AVal→Bool
 |.agg _|.tup _=>false|_=>true
theorem Rep.one {bs:List Nat}{H:Hz}{w:World}{a:AVal}{v:Value}(h:Rep F bs H w a v)(h1:a.one=true):v.oneCell'=true:=by
 cases a<;>simp only[Rep,AVal.one,bFt]at h h1<;>first
  |(exact h1.elim)|(subst h;rfl)|(obtain⟨⟨a,c,_,rfl⟩,_⟩:=h;rfl)
  |(obtain⟨⟨a,rfl⟩,_⟩:=h;rfl)
  |(obtain⟨_,_,_,rfl,_⟩:=h;rfl)
  |(obtain⟨_,_,rfl,_⟩:=h;rfl)
  |(obtain⟨_,rfl,_⟩:=h;rfl)
theorem Aa.one {bs:List Nat}{H:Hz}{w:World}:∀{az:List AVal}{vs:List Value},Aa F bs H w az vs→az.all AVal.one=true→∀v∈vs,v.oneCell'=true
 | [],_,h,_=>by simp only[Aa]at h;subst h;simp
 |a::az,_,h,h1=>by
  simp only[Aa]at h;obtain⟨u,us,rfl,h2,h3⟩:=h;simp only[List.all_cons,bAt]at h1;intro v hv;rcases List.mem_cons.1 hv with rfl|hv;·exact h2.one h1.1
  ·exact Aa.one h3 h1.2 v hv
theorem Rep.cells {bs:List Nat}{H:Hz}{w:World}{a:AVal}{v:Value}(h:Rep F bs H w a v):Aa F bs H w a.cells v.cells.toList:=by
 have key:∀(b:AVal),b.one=true→Rep F bs H w b v→Aa F bs H w [b] v.cells.toList:=λb h1 hb=>by
  have:=hb.one h1;have hc:v.cells.toList=[v]:=by cases v<;>simp_all[Value.cells,Value.oneCell']
  grind[Aa]
 cases a<;>grind[Rep,AVal.cells,Value.cells,Aa]
inductive AOpd where
 |tmp (t:Nat)|val (a:AVal)|glob (g:Nat)
def lk (t:Nat):List (Nat×AVal)→Option AVal
 | []=>none|(u,v)::r=>cond (Nat.beq t u) (some v)<|lk t r
inductive Env where
 |leaf|node (v:Option AVal) (l r:Env)|al (l:List<|Nat×AVal)
def Env.get :Env→Nat→Option AVal
 |.leaf,_=>none|.al l,t=>lk t l|.node v l r,t=>cond (Nat.beq t 0) v<|cond (Nat.beq (Nat.mod t 2) 1) (l.get<|Nat.div t 2)<|r.get<|Nat.pred<|Nat.div t 2
def Env.put :Nat→Nat→AVal→Env→Env
 |0,_,_,e=>e|_+1,t,v,.al l=>.al ((t,v)::l)|k+1,t,v,.leaf=>cond (Nat.beq t 0) (.node (some v) .leaf .leaf) (cond (Nat.beq (Nat.mod t 2) 1) (.node none (Env.put k (Nat.div t 2) v .leaf) .leaf)<|.node none .leaf<|Env.put k (Nat.pred<|Nat.div t 2) v .leaf)|k+1,t,v,.node w l r=>cond (Nat.beq t 0) (.node (some v) l r)<|cond (Nat.beq (Nat.mod t 2) 1) (.node w (Env.put k (Nat.div t 2) v l) r)<|.node w l<|Env.put k (Nat.pred<|Nat.div t 2) v r
theorem Env.get_node (x:Option AVal)(l r:Env)(u:Nat):(Env.node x l r).get u=cond (Nat.beq u 0) x (cond (Nat.beq (Nat.mod u 2) 1) (l.get<|Nat.div u 2)<|r.get<|Nat.pred<|Nat.div u 2):=rfl
theorem Env.get_put :∀(k t:Nat) (v:AVal) (e:Env) (u:Nat),t+2≤2^k→(Env.put k t v e).get u=if u=t then some v else e.get u
 |0,t,_,_,_,h=>Qz
 |k+1,t,v,e,u,hk=>by
  have step:∀(x:Option AVal) (l r:Env),(cond (Nat.beq t 0) (Env.node (some v) l r)<|cond (Nat.beq (Nat.mod t 2) 1) (Env.node x (Env.put k (Nat.div t 2) v l) r)<|Env.node x l<|Env.put k (Nat.pred<|Nat.div t 2) v r).get u=
   if u=t then some v else(Env.node x l r).get u:=by
   intro x l r;have hmod:Nat.mod u 2=u%2:=rfl;have hdiv:Nat.div u 2=u/2:=rfl;have hmodt:Nat.mod t 2=t%2:=rfl;have hdivt:Nat.div t 2=t/2:=rfl;have hp:2^(k+1)=2*2^k:=Y;cases ht:Nat.beq t 0 with
   |true=>have ht0:=nBq ht;rw[cond_true,Env.get_node,Env.get_node];cases hu:Nat.beq u 0 with|true=>rw[cond_true,if_pos (by simp_all)]|false=>rw[cond_false,cond_false,if_neg (by grind)]
   |false=>
    have ht0:=Nat.ne_of_beq_eq_false ht;rw[cond_false];cases htm:Nat.beq (Nat.mod t 2) 1 with
    |true=>
     have htm':=nBq htm;rw[cond_true,Env.get_node,Env.get_node];cases hu:Nat.beq u 0 with
     |true=>rw[cond_true,cond_true,if_neg (by grind)]
     |false=>
      rw[cond_false,cond_false];cases hum:Nat.beq (Nat.mod u 2) 1 with
      |false=>rw[cond_false,cond_false,if_neg (by grind)]
      |true=>
       have hum':=nBq hum;rw[cond_true,cond_true,Env.get_put k _ v l _ Y];by_cases he:u=t;·grind
       ·grind
    |false=>
     have htm':=Nat.ne_of_beq_eq_false htm;rw[cond_false,Env.get_node,Env.get_node];cases hu:Nat.beq u 0 with
     |true=>rw[cond_true,cond_true,if_neg (by grind)]
     |false=>
      have hu0:=Nat.ne_of_beq_eq_false hu;rw[cond_false,cond_false];cases hum:Nat.beq (Nat.mod u 2) 1 with
      |true=>rw[cond_true,cond_true,if_neg (by grind)]
      |false=>
       have hum':=Nat.ne_of_beq_eq_false hum;rw[cond_false,cond_false,Env.get_put k _ v r _ (by grind[Nat.pred_eq_sub_one])];by_cases he:u=t;·grind
       ·rw[if_neg he,if_neg (by grind[Nat.pred_eq_sub_one])]
  cases e with
  |leaf=>
   have h1:=step none .leaf .leaf;have hn:(Env.node none .leaf .leaf).get u=Env.leaf.get u:=by rw[Env.get_node];cases Nat.beq u 0<;>cases Nat.beq (Nat.mod u 2) 1<;>rfl
   rw[hn]at h1;exact h1
  |node x l r=>exact step x l r|al l=>show lk u ((t,v)::l)=if u=t then some v else lk u l;simp only[lk];cases hu:Nat.beq u t with|true=>rw[if_pos<|nBq hu];rfl|false=>rw[if_neg<|Nat.ne_of_beq_eq_false hu];rfl
structure St where
 env:Env
 H:Hz
 n:Nat
def ev (G:List<|Nat×AVal)(s:St):AOpd→Option AVal
 |.tmp t=>s.env.get t|.val a=>some a|.glob g=>(lk g G).map λe=>.eptr e 0
def evs (G:List<|Nat×AVal)(s:St):List AOpd→Option (List AVal)
 | []=>some []
 |x::xs=>
  match ev G s x with
  |some v=>match evs G s xs with
   |some vs=>some (v::vs)|none=>none
  |none=>none
def Dz :Nat→Value→Option AVal
 |0,_=>none|n+1,v=>match v with|.bool b=>some (.bool b)|.int k m=>some (.int k m)|.string s=>some (.str s.data.toList)|.pointer none=>some .nilPtr|.slice none 0 0=>some .nilSl|.nilFunc=>some .nilFn|.map none=>some .nilMp|.nilIface=>some .nilIf|.agg cs=>(cs.toList.mapM<|Dz n).map .agg|_=>none
def Aj :Operand→Option AOpd
 |.tmp t=>some (.tmp t)|.const v=>(Dz 3 v).map .val|.global g=>some (.glob g)|.func f=>some<|.val<|.fn f [] []
def Jw :List Operand→Option (List AOpd)
 | []=>some []
 |x::xs=>
  match Aj x with
  |some y=>match Jw xs with
   |some ys=>some (y::ys)|none=>none
  |none=>none
def GOK (W0:World)(G:List<|Nat×AVal):Prop:=∀g e,lk g G=some e→Rep (λ_=>False) [] [] W0 (.eptr e 0) (.pointer<|some ⟨g,0,none⟩)
structure RS (W0:World)(F:Nat→Prop)(bs:List Nat)(s:St)(a:Act)(w:World):Prop where
 heap:Ad W0 F bs s.H w
 size:a.tmps.size=s.n
 env:∀t v,s.env.get t=some v→Rep F bs s.H w v (a.tmps.getD t undef)
theorem Jk {bs:List Nat}{H:Hz}{w:World}{f:Value→Option AVal}:∀{l:List Value}{az:List AVal},(∀v∈l,∀a,f v=some a→Rep F bs H w a v)→l.mapM f=some az→Aa F bs H w az l
 | [],az,_,h=>by grind[Aa]|v::l,az,hf,h=>by simp only[List.mapM_cons,oBb,Option.pure_def,oBi]at h;obtain⟨a,ha,bs',hb,he⟩:=h;injection he with he;subst he;simp only[Aa];exact⟨v,l,Z,hf v Ax a ha,Jk (λu hu=>hf u (by simp[hu])) hb⟩
theorem Rep.const {bs:List Nat}{H:Hz}{w:World}:∀(n:Nat) (v:Value) (a:AVal),Dz n v=some a→Rep F bs H w a v
 |0,_,_,h=>by simp[Dz]at h
 |n+1,v,a,h=>by
  cases v with
  |bool b=>simp[Dz]at h;subst h;simp[Rep]|int k m=>simp[Dz]at h;subst h;simp[Rep]|string s=>simp[Dz]at h;subst h;simp[Rep]|pointer p=>cases p<;>simp[Dz]at h;subst h;simp[Rep]
  |map p=>cases p<;>simp[Dz]at h;subst h;simp[Rep]
  |slice p l c=>cases p with|some _=>simp[Dz]at h|none=>cases l with|succ _=>simp[Dz]at h|zero=>cases c with|succ _=>simp[Dz]at h|zero=>simp[Dz]at h;subst h;simp[Rep]
  |nilFunc=>simp[Dz]at h;subst h;simp[Rep]|nilIface=>simp[Dz]at h;subst h;simp[Rep]|agg cs=>simp only[Dz,Option.map_eq_some_iff]at h;obtain⟨az,h1,rfl⟩:=h;simp only[Rep];exact⟨cs.toList,Ax,Jk (λu _ b hb=>Rep.const n u b hb) h1⟩
  |_=>simp[Dz]at h
theorem B6 {W0:World}{G:List (Nat×AVal)}{bs:List Nat}{s:St}{a:Act}{w:World}(hg:GOK W0 G)(hs:RS W0 F bs s a w){x:Operand}{y:AOpd}(hc:Aj x=some y){v:AVal}(hv:ev G s y=some v):
 Rep F bs s.H w v (a.eval x):=by
 cases x with
 |tmp t=>simp[Aj]at hc;subst hc;exact hs.env t v hv|const c=>simp only[Aj,Option.map_eq_some_iff]at hc;obtain⟨b,hb,rfl⟩:=hc;simp[ev]at hv;subst hv;exact Rep.const _ _ _ hb
 |global g=>simp[Aj]at hc;subst hc;simp only[ev,Option.map_eq_some_iff]at hv;obtain⟨e,he,rfl⟩:=hv;exact Rep.extF hs.heap.ext0 (λk hk _ _ hf=>by have:=(hs.heap.forb k hf).1;omega) _ _<|hg g e he
 |func f=>simp[Aj]at hc;subst hc;simp[ev]at hv;subst hv;simp only[Rep,Act.eval];exact⟨[],[],Z,Yf,Yf⟩
theorem A1g {W0:World}{G:List (Nat×AVal)}{bs:List Nat}{s:St}{a:Act}{w:World}(hg:GOK W0 G)(hs:RS W0 F bs s a w):∀{xs:List Operand}{ys:List AOpd} (_:Jw xs=some ys) {vs:List AVal} (_:evs G s ys=some vs),
 Aa F bs s.H w vs (xs.map a.eval)
 | [],ys,hc,vs,hv=>by grind[Jw,evs,Aa]
 |x::xs,ys,hc,vs,hv=>by
  simp only[Jw]at hc;split at hc
  ·rename_i y hy;split at hc
   ·rename_i ys' hys;injection hc with hc;subst hc;simp only[evs]at hv;split at hv
    ·rename_i v hv1;split at hv;·rename_i vs' hvs;injection hv with hv;subst hv;simp only[List.map_cons,Aa];exact⟨_,_,Z,B6 hg hs hy hv1,A1g hg hs hys hvs⟩
     ·cases hv
    ·cases hv
   ·cases hc
  ·cases hc
def Ag :List (Int×Int)→Prop
 | []=>True|p::r=>p.1≤p.2∧Ag r
inductive ARes where
 |val (v:AVal) (H:Hz) (side:List<|Int×Int)|skip (H:Hz)|call (f:FuncId) (args:List AVal)
def Ed (P:Program)(f:FuncId):Prop:=∃fn c,P.funcs[f]?=some fn∧fn.body=some c∧fn.name≠ "runtime.NumGoroutine"
def Dt (P:Program)(W0:World)(F:Nat→Prop)(bs:List Nat)(H:Hz)(w:World)(r:Result Next):ARes→Prop
 |.val v H' side=>Ag side→∃cv w' bs',r= .ok (.value cv) w'∧Rep F bs' H' w' v cv∧Ad W0 F bs' H' w'∧Ext bs H w bs' H' w'|.skip H'=>∃w' bs',r= .ok .skip w'∧Ad W0 F bs' H' w'∧Ext bs H w bs' H' w'|.call f args=>Ed P f→∃cargs:List Value,r= .ok (.enter f cargs.toArray) w∧Aa F bs H w args cargs
theorem Dt.same {P:Program}{W0:World}{bs:List Nat}{H:Hz}{w:World}{r:Result Next}{v:AVal}{cv:Value}(hh:Ad W0 F bs H w)(hr:r= .ok (.value cv) w)(hv:Rep F bs H w v cv):Dt P W0 F bs H w r (.val v H []):=λ_=>⟨cv,w,bs,hr,hv,hh,Ext.refl _ _ _⟩
def On (P:Program)(t:TypeId):Option (Nat×Bool):=
 match P.info? t with
 |none=>none
 |some i=>match P.underlying t with
  |some (.struct _)=>some (i.size,true)|some (.array _ _)=>some (i.size,true)|some _=>some (i.size,false)|none=>none
section
variable {P : Program} (w : World)
theorem A7 {t:TypeId}{d:TypeDesc}(h:P.underlying t=some d):(underlying t).run P w= .ok d w:=by simp[underlying,h]
theorem E8 {t:TypeId}{i:TypeInfo}(h:P.info? t=some i):(typeInfo t).run P w= .ok i w:=by simp[typeInfo,h]
theorem R2 {t:TypeId}{n:Nat}{agg:Bool}(h:On P t=some (n,agg)):(isAgg t).run P w= .ok agg w∧(sizeOf t).run P w= .ok n w:=by
 unfold On at h;cases hi:P.info? t with
 |none=>simp[hi]at h
 |some i=>
  rw[hi]at h;simp only at h;have hs:(sizeOf t).run P w= .ok i.size w:=A9s;cases hd:P.underlying t with
  |none=>simp[hd]at h
  |some d=>
   have ha:(isAgg t).run P w= .ok (match d with|.struct _|.array _ _=>true|_=>false) w:=by simp only[isAgg,sRb,A7 w hd,rAo];cases d<;>rfl
   rw[hd]at h;cases d<;>simp at h<;>obtain⟨rfl,rfl⟩:=h<;>exact⟨ha,hs⟩
end
def Bt (n:Nat)(agg:Bool)(cs:List AVal)(off:Nat):Option AVal:=
 match agg with
 |true=>cond (Nat.beq ((cs.drop off).take n).length n) (some<|.agg<|(cs.drop off).take n) none
 |false=>cond (Nat.beq n 1) (match cs.drop off with
  |c::_=>cond c.one (some c) none| []=>none) none
def J4 (n:Nat)(agg:Bool)(H:Hz):AVal→Option AVal
 |.eptr e off=>Bt n agg e.cells off
 |.ptr id off=>match H[id]? with
  |some (.cells _ cs false)=>Bt n agg cs off|_=>none
 |.optr id off len=>match H[id]? with
  |some (.cells _ cs true)=>cond (Nat.beq cs.length len) (Bt n agg cs off) none|_=>none
 |_=>none
theorem Js {P:Program}(w:World){bs:List Nat}{H:Hz}{t:TypeId}{n:Nat}{agg:Bool}(ht:On P t=some (n,agg)){cs:List AVal}{us:List Value}{b base off:Nat}
 (hl:Aa F bs H w cs us) (hc:∀j x,us[j]?=some x→w.cell? ⟨b,base+j,none⟩=some x) {v:AVal} (hv:Bt n agg cs off=some v):
 ∃cv,(Instr.loadAt t<|.pointer<|some ⟨b,base+off,none⟩).run P w= .ok cv w∧Rep F bs H w v cv:=by
 obtain⟨ha,hs⟩:=R2 w ht;cases agg with
 |true=>
  simp only[Bt]at hv;cases hlen:Nat.beq ((cs.drop off).take n).length n with
  |false=>rw[hlen]at hv;cases hv
  |true=>
   simp only[hlen,cond_true,iS]at hv;subst hv;have hrl:Aa F bs H w ((cs.drop off).take n) ((us.drop off).take n):=(hl.drop off).take n;have hun:((us.drop off).take n).length=n:=by rw[hrl.length];simp_all
   have hld:=run_loadCells_list (P:=P) w ⟨b,base+off,none⟩ ((us.drop off).take n) (λj x hx=>by grind[Addr.add]);rw[hun]at hld;refine⟨.agg ((us.drop off).take n).toArray,?_,?_⟩;·simp_all[Instr.loadAt,Instr.sureAddr,loadVar]
   ·grind[Rep]
 |false=>
  simp only[Bt]at hv;cases hn:Nat.beq n 1 with
  |false=>simp[hn]at hv
  |true=>
   simp only[hn,cond_true]at hv;cases hd:cs.drop off with
   |nil=>simp[hd]at hv
   |cons c rest=>
    simp only[hd]at hv;cases h1:c.one with
    |false=>simp[h1]at hv
    |true=>
     simp only[h1,cond_true,iS]at hv;subst hv;have hget:cs[off]?=some c:=by have:=congrArg (λl=>l[0]?) hd;grind
     obtain⟨u,hu,hr⟩:=hl.get hget;refine⟨u,?_,hr⟩;simp[Instr.loadAt,Instr.sureAddr,loadVar,ha,hc off u hu]
theorem A3a {P:Program}{W0 w:World}{bs:List Nat}{H:Hz}(hh:Ad W0 F bs H w){t:TypeId}{n:Nat}{agg:Bool}(ht:On P t=some (n,agg)){p v:AVal}{cp:Value}(hp:Rep F bs H w p cp)(hv:J4 n agg H p=some v):
 ∃cv,(Instr.loadAt t cp).run P w= .ok cv w∧Rep F bs H w v cv:=by
 cases p<;>simp only[J4]at hv<;>try (cases hv;done)
 case eptr e off=>simp only[Rep]at hp;obtain⟨b,base,u,rfl,he,_,_,hc⟩:=hp;exact Js w ht he.cells hc hv
 case ptr id off=>
  simp only[Rep]at hp;obtain⟨_,hp⟩:=hp;unfold Ey at hp;split at hv;·rename_i T cs ho;rw[ho]at hp;obtain⟨b,hb,rfl⟩:=hp;obtain⟨vs,rest,fr,hcell,hl,_⟩:=hh.obj id _ b ho hb;have:=Js (P:=P) (b:=b) (base:=0) w ht hl (λj x hx=>by rw[Nat.zero_add,cell_of_row w b j _ T fr hcell,List.getElem?_toArray,List.getElem?_append_left (List.getElem?_eq_some_iff.1 hx).1];exact hx) hv;grind
  ·cases hv
 case optr id off len=>
  simp only[Rep]at hp;obtain⟨_,hp⟩:=hp;unfold Fq at hp;split at hv
  ·rename_i T cs ho;rw[ho]at hp;cases hlen:Nat.beq cs.length len with
   |false=>rw[hlen]at hv;cases hv
   |true=>rw[hlen,cond_true]at hv;obtain⟨b,hb,rfl⟩:=hp.2<|nBq hlen;obtain⟨vs,rest,fr,hcell,hl,_⟩:=hh.obj id _ b ho hb;have:=Js (P:=P) (b:=b) (base:=0) w ht hl (λj x hx=>by rw[Nat.zero_add,cell_of_row w b j _ _ fr hcell,List.getElem?_toArray,List.getElem?_append_left (List.getElem?_eq_some_iff.1 hx).1];exact hx) hv;simpa using this
  ·cases hv
theorem G0 {P:Program}(g o:Nat)(t:TypeId)(fr:Nat×Nat):∀(vs:List Value) (i:Nat) (cur:Array Value) (w:World),w.heap[g]?=some (.cells cur t fr)→∀n,(∀j,j<n→¬(fr.1≤j∧j<fr.2))→o+i+vs.length≤n→n≤cur.size→(∀v∈vs,v.oneCell'=true)→
 (storeCells ⟨g,o,none⟩ vs i).run P w= .ok () (w.setRow g (cur.toList.take (o+i)++vs++cur.toList.drop (o+i+vs.length)).toArray)
 | [],i,cur,w,hg,_,_,_,_,_=>by simp only[storeCells,List.append_nil,lNi,Nat.add_zero,List.take_append_drop,Array.toArray_toList];rw[setRow_self w g cur t fr hg];rfl
 |v::rest,i,cur,w,hg,n,hf,hl',hn,h1=>by
  have hl:o+i+(v::rest).length≤cur.size:=Nat.le_trans hl' hn;have hi:o+i<cur.size:=by grind
  have hadd:(⟨g,o,none⟩:Addr).add i=⟨g,o+i,none⟩:=by grind[Addr.add]
  have hcell:w.cell? ⟨g,o+i,none⟩=some cur[o+i]:=by simp[World.cell?,hg,hi]
  have hfro:w.frozen? ⟨g,o+i,none⟩=false:=by obtain⟨lo,hi'⟩:=fr;have:=hf (o+i) (by grind);grind[World.frozen?]
  have hst:(store ((⟨g,o,none⟩:Addr).add i) v).run P w= .ok () (w.setRow g<|cur.setIfInBounds (o+i) v):=by grind[run_store,setCell_eq_setRow]
  have ih:=G0 (P:=P) g o t fr rest (i+1) (cur.setIfInBounds (o+i) v) (w.setRow g<|cur.setIfInBounds (o+i) v) (setRow_heap w g cur _ t _ hg) n hf (by grind) (by grind)<|λx hx=>h1 x (by simp[hx]);simp only[storeCells,sRb,hst,rAo,ih,setRow_setRow];congr 3;have e:=list_seg_step cur.toList (o+i) v rest Y;grind
def spl (cs:List AVal)(off:Nat)(xs:List AVal):List AVal:=cs.take off++(xs++cs.drop (off+xs.length))
def M7 (n:Nat)(H:Hz)(p x:AVal):Option Hz:=
 match p with
 |.ptr id off=>match H[id]? with
  |some (.cells T cs false)=>cond (Nat.beq x.cells.length n&&Nat.ble (off+n) cs.length&&x.cells.all AVal.one) (some<|H.set id<|.cells T (spl cs off x.cells) false) none|_=>none
 |.optr id off len=>match H[id]? with
  |some (.cells T cs true)=>cond (Nat.blt T 1000000&&Nat.beq cs.length len&&(Nat.beq x.cells.length n&&Nat.ble (off+n) cs.length&&x.cells.all AVal.one)) (some<|H.set id<|.cells T (spl cs off x.cells) true) none|_=>none
 |_=>none
theorem Gj {B:Nat}(w:World){b:Nat}(cs:Array Value)(h:B≤b):Below B w (w.setRow b cs):=⟨rfl,rfl,rfl,by simp_all,λk hk=>setRow_other w b k cs Y⟩
theorem A8c {P:Program}{W0 w:World}{bs:List Nat}{H H':Hz}(hh:Ad W0 F bs H w){t:TypeId}{n:Nat}{agg:Bool}(ht:On P t=some (n,agg)){p x:AVal}{cp cx:Value}(hp:Rep F bs H w p cp)(hx:Rep F bs H w x cx)(hv:M7 n H p x=some H'):
 ∃w',(Instr.storeAt t cp cx).run P w= .ok () w'∧Ad W0 F bs H' w'∧Ext bs H w bs H' w':=by
 obtain⟨_,hs⟩:=R2 w ht;cases p<;>simp only[M7]at hv<;>try (cases hv;done)
 case ptr id off=>
  simp only[Rep]at hp;obtain⟨_,hp⟩:=hp;unfold Ey at hp;split at hv
  ·rename_i T cs ho;rw[ho]at hp;obtain⟨b,hb,rfl⟩:=hp;obtain⟨vs,rest,fr,hcell,hl,hfr⟩:=hh.obj id _ b ho hb;cases hcnd:(Nat.beq x.cells.length n&&Nat.ble (off+n) cs.length&&x.cells.all AVal.one)with
   |false=>simp[hcnd]at hv
   |true=>
    simp only[hcnd,cond_true,iS]at hv;subst hv;simp only[bAt]at hcnd;obtain⟨⟨h1,h2⟩,h3⟩:=hcnd;have h1:=nBq h1;have h2:=Nat.le_of_ble_eq_true h2;have hxc:=hx.cells;have hxl:cx.cells.toList.length=n:=by rw[hxc.length];exact h1
    have hvl:=hl.length;have hst:=G0 (P:=P) b off T fr cx.cells.toList 0 (vs++rest).toArray w hcell vs.length hfr Y Ax<|hxc.one h3;simp only[Nat.add_zero]at hst;have hsp:(vs++rest).toArray.toList.take off++cx.cells.toList++(vs++rest).toArray.toList.drop (off+cx.cells.toList.length)=(vs.take off++cx.cells.toList++vs.drop (off+cx.cells.toList.length))++rest:=by grind
    rw[hsp]at hst;have hrow:Aa F bs H w (spl cs off x.cells) (vs.take off++cx.cells.toList++vs.drop (off+cx.cells.toList.length)):=by rw[spl,List.append_assoc,hxl,←h1];exact(hl.take off).append<|hxc.append<|hl.drop _
    have hlen:(spl cs off x.cells).length=cs.length:=by simp[spl];omega
    have hoe:Bd bs bs w (w.setRow b ((vs.take off++cx.cells.toList++vs.drop (off+cx.cells.toList.length))++rest).toArray) id (.cells T cs false) (.cells T (spl cs off x.cells) false):=.inr ⟨T,_,Z,hlen,Z⟩;have hlow:=hh.low b<|mGe hb;have hext:=Ext.upd (w':=w.setRow b ((vs.take off++cx.cells.toList++vs.drop (off+cx.cells.toList.length))++rest).toArray) hh.nodup ho hb Ax (λk hk=>setRow_other w b k _ hk) hoe;refine⟨_,?_,Ad.upd hh ho hb (Gj w _ hlow.1) Ax (λk hk=>setRow_other w b k _ hk) hoe ?_,hext⟩;·simp_all[Instr.storeAt,Instr.sureAddr,storeVar]
    ·refine⟨_,rest,fr,setRow_heap w b _ _ T fr hcell,Aa.ext hext _ _ hrow,λj hj=>hfr j ?_⟩;grind
  ·cases hv
 case optr id off len=>
  simp only[Rep]at hp;obtain⟨_,hp⟩:=hp;unfold Fq at hp;split at hv
  ·rename_i T cs ho;rw[ho]at hp;cases hcnd:(Nat.blt T 1000000&&Nat.beq cs.length len&&(Nat.beq x.cells.length n&&Nat.ble (off+n) cs.length&&x.cells.all AVal.one))with
   |false=>simp[hcnd]at hv
   |true=>
    simp only[hcnd,cond_true,iS]at hv;subst hv;simp only[bAt]at hcnd;obtain⟨⟨hT,h0⟩,⟨h1,h2⟩,h3⟩:=hcnd;obtain⟨b,hb,rfl⟩:=hp.2<|nBq h0;obtain⟨vs,rest,fr,hcell,hl,hfr⟩:=hh.obj id _ b ho hb;obtain rfl:=hfr hT;rw[Ij hT]at hcell;have h1:=nBq h1;have h2:=Nat.le_of_ble_eq_true h2;have hxc:=hx.cells;have hxl:cx.cells.toList.length=n:=by rw[hxc.length];exact h1
    have hvl:=hl.length;have hst:=G0 (P:=P) b off T (0,0) cx.cells.toList 0 (vs++rest).toArray w hcell vs.length (λj _ h=>by omega) Y Ax<|hxc.one h3;simp only[Nat.add_zero]at hst;have hsp:(vs++rest).toArray.toList.take off++cx.cells.toList++(vs++rest).toArray.toList.drop (off+cx.cells.toList.length)=(vs.take off++cx.cells.toList++vs.drop (off+cx.cells.toList.length))++rest:=by grind
    rw[hsp]at hst;have hrow:Aa F bs H w (spl cs off x.cells) (vs.take off++cx.cells.toList++vs.drop (off+cx.cells.toList.length)):=by rw[spl,List.append_assoc,hxl,←h1];exact(hl.take off).append<|hxc.append<|hl.drop _
    have hlen:(spl cs off x.cells).length=cs.length:=by simp[spl];omega
    have hnew:=setRow_heap w b _ ((vs.take off++cx.cells.toList++vs.drop (off+cx.cells.toList.length))++rest).toArray T (0,0) hcell;have hbz:D4 (w.setRow b ((vs.take off++cx.cells.toList++vs.drop (off+cx.cells.toList.length))++rest).toArray) b=D4 w b:=by grind[D4]
    have hoe:Bd bs bs w (w.setRow b ((vs.take off++cx.cells.toList++vs.drop (off+cx.cells.toList.length))++rest).toArray) id (.cells T cs true) (.cells T (spl cs off x.cells) true):=.inr ⟨T,_,rfl,.inr ⟨hlen,rfl,λb' hb'=>by grind⟩⟩;have hlow:=hh.low b<|mGe hb;have hext:=Ext.upd (w':=w.setRow b ((vs.take off++cx.cells.toList++vs.drop (off+cx.cells.toList.length))++rest).toArray) hh.nodup ho hb Ax (λk hk=>setRow_other w b k _ hk) hoe;refine⟨_,?_,Ad.upd hh ho hb (Gj w _ hlow.1) Ax (λk hk=>setRow_other w b k _ hk) hoe ?_,hext⟩;·simp_all[Instr.storeAt,Instr.sureAddr,storeVar]
    ·exact⟨_,rest,(0,0),by grind[Ij],Aa.ext hext _ _ hrow,λ_=>rfl⟩
  ·cases hv
def Ee (P:Program)(t:TypeId):Option (List AVal):=
 match P.info? t with
 |some i=>match i.zero with
  |some z=>z.cells.toList.mapM (Dz 3)|none=>none
 |none=>none
theorem A2j {P:Program}{w:World}{bs:List Nat}{H:Hz}{t:TypeId}{zs:List AVal}(h:Ee P t=some zs):
 ∃z:Value,(zeroValue t).run P w= .ok z w∧Aa F bs H w zs z.cells.toList:=by
 unfold Ee at h;split at h
 ·rename_i i hi;split at h;·rename_i z hz;exact⟨z,by simp[zeroValue,E8 w hi,hz],Jk (λv _ a ha=>Rep.const 3 v a ha) h⟩
  ·cases h
 ·cases h
theorem P2 {W0 w:World}{bs:List Nat}{H:Hz}(hh:Ad W0 F bs H w)(T:TypeId){cs:List AVal}{us:List Value}(hl:Aa F bs H w cs us):
 Rep F (bs++[w.heap.size]) (H++[.cells T cs false]) (w.alloc<|.cells us.toArray T) (.ptr H.length 0) (.pointer<|some ⟨w.heap.size,0,none⟩)∧
 Ad W0 F (bs++[w.heap.size]) (H++[.cells T cs false]) (w.alloc<|.cells us.toArray T)∧
 Ext bs H w (bs++[w.heap.size]) (H++[.cells T cs false]) (w.alloc<|.cells us.toArray T):=by
 have he:=Ext.alloc hh.len (λb hb=>(hh.low b hb).2) (.cells us.toArray T)<|.cells T cs false;refine⟨?_,hh.alloc _ _ ⟨us,[],(0,0),by rw[List.append_nil];exact heap_alloc_new w _,Aa.ext he _ _ hl,λj _=>by simp⟩,he⟩;simp only[Rep,Ey,List.getElem?_concat_length];exact⟨⟨_,Z⟩,w.heap.size,A52,Z⟩
theorem Aa6 {P:Program}{W0 w:World}{bs:List Nat}{H:Hz}(hh:Ad W0 F bs H w){T:TypeId}{zs:List AVal}(hz:Ee P T=some zs):
 ∃cv w' bs',(Instr.alloc T true<|.tuple #[]).run P w= .ok cv w'∧Rep F bs' (H++[.cells T zs false]) w' (.ptr H.length 0) cv∧Ad W0 F bs' (H++[.cells T zs false]) w'∧Ext bs H w bs' (H++[.cells T zs false]) w':=by
 obtain⟨z,hr,hl⟩:=A2j (w:=w) (bs:=bs) (H:=H) hz;obtain⟨h1,h2,h3⟩:=P2 hh T hl;rw[Array.toArray_toList]at h1 h2 h3;exact⟨.pointer<|some ⟨w.heap.size,0,none⟩,w.alloc<|.cells z.cells T,_,by simp[Instr.alloc,hr,newVar,newRow],h1,h2,h3⟩
theorem box_ok {P:Program}{W0 w:World}{bs:List Nat}{H:Hz}(hh:Ad W0 F bs H w)(T:TypeId){x:AVal}{cx:Value}(hx:Rep F bs H w x cx):
 ∃cv w' bs',(Instr.box T cx).run P w= .ok cv w'∧Rep F bs' (H++[.cells T x.cells false]) w' (.ptr H.length 0) cv∧Ad W0 F bs' (H++[.cells T x.cells false]) w'∧Ext bs H w bs' (H++[.cells T x.cells false]) w':=by
 obtain⟨h1,h2,h3⟩:=P2 hh T hx.cells;rw[Array.toArray_toList]at h1 h2 h3;exact⟨.pointer<|some ⟨w.heap.size,0,none⟩,w.alloc<|.cells cx.cells T,_,by simp[Instr.box,newVar,newRow],h1,h2,h3⟩
def Nx (H:Hz)(id:Nat):Bool:=match H[id]? with|some (.cells _ _ false)=>true|_=>false
def Pn (H:Hz)(id len:Nat):Bool:=match H[id]? with|some (.cells _ cs true)=>Nat.beq cs.length len|_=>false
theorem good_ok {bs:List Nat}{H:Hz}{id off len:Nat}{v:Value}(hg:Pn H id len=true)(h:Fq bs H id off len v):∃b,bs[id]?=some b∧v= .pointer (some ⟨b,off,none⟩)∧∀off',Fq bs H id off' len (.pointer<|some ⟨b,off',none⟩):=by grind[Pn,Fq,Nat.eq_of_beq_eq_true]
def A0s (H:Hz)(off:Nat):AVal→Option AVal
 |.ptr id o=>cond (Nx H id) (some<|.ptr id<|o+off) none|.optr id o len=>cond (Pn H id len) (some<|.optr id (o+off) len) none|.eptr e o=>some (.eptr e<|o+off)|_=>none
theorem Addr.add_at (b o n:Nat):(⟨b,o,none⟩:Addr).add n=⟨b,o+n,none⟩:=by grind[Addr.add]
theorem A6k {w:World}{bs:List Nat}{H:Hz}{off:Nat}{p q:AVal}{cp:Value}(hp:Rep F bs H w p cp)(h:A0s H off p=some q):
 ∃b o,cp= .pointer (some ⟨b,o,none⟩)∧Rep F bs H w q (.pointer<|some ⟨b,o+off,none⟩):=by
 cases p<;>simp only[A0s]at h<;>try (cases h;done)
 all_goals grind[Rep,Nx,Ey,good_ok]
def A0d (P:Program)(s:TypeId)(f:Nat):Option Nat:=
 match P.underlying s with
 |some (.struct fields)=>match fields[f]? with
  |some fd=>match P.info? fd.type with
   |some i=>cond (Nat.beq i.size 0) none (some fd.offset)|none=>none
  |none=>none
 |_=>none
theorem A0t {P:Program}{w:World}{bs:List Nat}{H:Hz}{s:TypeId}{f off:Nat}(hf:A0d P s f=some off){p q:AVal}{cp:Value}(hp:Rep F bs H w p cp)(h:A0s H off p=some q):
 ∃cv,(Instr.fieldAt s cp f).run P w= .ok cv w∧Rep F bs H w q cv:=by
 obtain⟨b,o,rfl,hq⟩:=A6k hp h;refine⟨_,?_,hq⟩;unfold A0d at hf;split at hf
 ·rename_i fields hu;split at hf
  ·rename_i fd hfd;split at hf
   ·rename_i i hi;cases hz:Nat.beq i.size 0 with
    |true=>rw[hz]at hf;cases hf
    |false=>
     rw[hz]at hf;injection hf with hf;subst hf;have hz':i.size≠0:=λe=>by simp_all
     have hs:(sizeOf fd.type).run P w= .ok i.size w:=A9s;simp[Instr.fieldAt,A7 w hu,hfd,Instr.sureAddr,fieldPlace,hs,hz',Addr.add_at]
   ·cases hf
  ·cases hf
 ·cases hf
def anil (H:Hz):AVal→Option AVal
 |.ptr id o=>cond (Nx H id) (some<|.ptr id o) none|.optr id o len=>cond (Pn H id len) (some<|.optr id o len) none|.eptr e o=>some (.eptr e o)|.fn f a b=>some (.fn f a b)|_=>none
theorem anil_ok {P:Program}{w:World}{bs:List Nat}{H:Hz}{o:Oper}{x:Operand}(hop:o.op= .nilCheck x){a:Act}{p q:AVal}(hp:Rep F bs H w p<|a.eval x)(h:anil H p=some q):
 (execOp a.eval o).run P w= .ok (.value<|a.eval x) w∧Rep F bs H w q (a.eval x):=by
 have key:q=p∧((∃b,a.eval x= .pointer (some b))∨∃f fs cs,a.eval x= .func (.func f) fs cs):=by
  cases p<;>simp only[anil]at h<;>try (cases h;done)
  all_goals grind[Rep]
 obtain⟨rfl,hk⟩:=key;refine⟨?_,hp⟩;rcases hk with⟨b,hv⟩|⟨f,fs,cs,hv⟩<;>simp_all[execOp]
def W1 (i:Nat):AVal→Option AVal
 |.tup vs=>match vs.drop i with
  |v::_=>some v| []=>none
 |_=>none
theorem A38 {P:Program}{w:World}{bs:List Nat}{H:Hz}{i:Nat}{p q:AVal}{cp:Value}(hp:Rep F bs H w p cp)(h:W1 i p=some q):
 ∃cv,(Instr.extract cp i).run P w= .ok cv w∧Rep F bs H w q cv:=by
 cases p<;>simp only[W1]at h<;>try (cases h;done)
 case tup vs=>
  simp only[Rep]at hp;obtain⟨us,rfl,hl⟩:=hp;cases hd:vs.drop i with
  |nil=>simp[hd]at h
  |cons c rest=>
   simp only[hd,iS]at h;subst h;have hget:vs[i]?=some c:=by have:=congrArg (λl=>l[0]?) hd;grind
   obtain⟨u,hu,hr⟩:=hl.get hget;exact⟨u,by simp[Instr.extract,hu],hr⟩
abbrev AV :=AVal×List (Int×Int)
def Wg (a b:IntKind):Bool:=Nat.beq a.ctorIdx b.ctorIdx
theorem A05 {a b:IntKind}(h:Wg a b=true):a=b:=by cases a<;>cases b<;>first|rfl|(exact absurd h V)
def A1k (op:BinOp)(k:IntKind)(a b:Int):Option AV:=match op with|.add=>some (.int k<|k.wrap<|a+b,[])|.sub=>some (.int k<|k.wrap<|a-b,[])|.mul=>some (.int k<|k.wrap<|a*b,[])|.quo=>some (.int k<|k.wrap<|a.tdiv b,[(1,b*b)])|.rem=>some (.int k<|a.tmod b,[(1,b*b)])|.eql=>some (.bool<|a==b,[])|.neq=>some (.bool<|a !=b,[])|.lss=>some (.bool<|decide<|a<b,[])|.leq=>some (.bool<|decide<|a≤b,[])|.gtr=>some (.bool<|decide<|b<a,[])|.geq=>some (.bool<|decide<|b≤a,[])|.and=>some (.int k<|k.wrap (BitVec.ofInt k.bits a&&&BitVec.ofInt k.bits b).toNat,[])|.or=>some (.int k<|k.wrap (BitVec.ofInt k.bits a|||BitVec.ofInt k.bits b).toNat,[])|_=>none
def A3d (op:BinOp)(a b:Bz):Option AV:=match op with|.add=>some (.str<|a++b,[((a.length+b.length:Nat),140737488355328)])|.eql=>some (.bool<|a==b,[])|.neq=>some (.bool<|!(a==b),[])|.lss=>some (.bool<|Op.bytesLess a b,[])|_=>none
def A0x :AVal→AVal→Option Bool
 |.bool a,.bool b=>some (a==b)|.nilPtr,.nilPtr=>some true|.eptr _ _,.nilPtr=>some false|.nilSl,.nilSl=>some true|.emp,.nilSl=>some false|.row _ (_::_),.nilSl=>some false|.hsl _ _ _ _ _,.nilSl=>some false|.ptr _ _,.nilPtr=>some false|.optr _ _ _,.nilPtr=>some false|.nilFn,.nilFn=>some true|.fn _ _ _,.nilFn=>some false|.nilIf,.nilIf=>some true|.iface _ _,.nilIf=>some false|_,_=>none
def X3 :AVal→TypeDesc→Bool
 |.bool _,.bool=>true|.nilPtr,.pointer _=>true|.nilSl,.slice _=>true|.nilFn,.func _ _ _=>true|.nilIf,.interface _=>true|_,_=>false
def A0o (op:BinOp)(d:Option TypeDesc)(x y:AVal):Option AV:=
 match d with
 |none=>none
 |some d=>
  match A0x x y with
  |some r=>cond (X3 y d) (match op with
   |.eql=>some (.bool r,[])|.neq=>some (.bool (!r),[])|_=>none) none
  |none=>none
def Y2 (op:BinOp)(d:Option TypeDesc)(x y:AVal):Option AV:=
 match x,y with
 |.int k a,.int k' b=>match op with|.shl=>some (.int k<|k.wrap<|a*2^(min b.toNat k.bits),[(0,b)])|.shr=>some (.int k<|a.fdiv<|2^(min b.toNat k.bits),[(0,b)])|op=>cond (Wg k k') (A1k op k a b) none
 |.str a,.str b=>A3d op a b|x,y=>A0o op d x y
theorem Qb {P:Program}{w:World}(op:BinOp)(t:TypeId)(x y:Operand)(a b:Value)(h1:¬(a= .nilIface∧b= .nilIface)∨∃c,y= .const c)(h2:∀c,a≠ .agg c):
 (eqGuard op t x y a b).run P w= .ok () w:=by
 have key:∀op,(op= .eql∨op= .neq)→(eqGuard op t x y a b).run P w= .ok () w:=by
  rintro op hop;cases a with
  |nilIface=>
   cases b with
   |nilIface=>
    rcases h1 with h|⟨c,rfl⟩;·grind
    ·rcases hop with rfl|rfl<;>cases x<;>rfl
   |_=>rcases hop with rfl|rfl<;>rfl
  |agg c=>exact absurd rfl (h2 c)|_=>rcases hop with rfl|rfl<;>rfl
 cases op<;>first|(exact key _<|.inl rfl)|(exact key _<|.inr rfl)|rfl
theorem aint_ok {P:Program}{w:World}{bs:List Nat}{H:Hz}{op:BinOp}{k:IntKind}{a b:Int}{v:AVal}{side:List (Int×Int)}(t:TypeId)(h:A1k op k a b=some (v,side))(hs:Ag side):
 ∃cv,(binOp op t (.int k a)<|.int k b).run P w= .ok cv w∧Rep F bs H w v cv:=by
 have nz:(1:Int)≤b*b→b≠0:=λh e=>by grind
 cases op<;>simp only[A1k,iS,iP,reduceCtorEq]at h<;>(try (exact h.elim))<;>obtain⟨rfl,rfl⟩:=h;case quo=>exact⟨_,bY174,V2⟩
 case rem=>exact⟨_,bY174,V2⟩
 all_goals exact⟨_,by simp only[binOp,ne_eq,not_true,if_false,Op.intArith,Op.intCmp,Op.intBits];rfl,V2⟩
theorem astr_ok {P:Program}{w:World}{bs:List Nat}{H:Hz}{op:BinOp}{a b:Bz}{v:AVal}{side:List (Int×Int)}(t:TypeId)(h:A3d op a b=some (v,side))(hs:Ag side):
 ∃cv,(binOp op t (.string ⟨a.toArray⟩)<|.string ⟨b.toArray⟩).run P w= .ok cv w∧Rep F bs H w v cv:=by
 cases op<;>simp only[A3d,iS,iP,reduceCtorEq]at h<;>(try (exact h.elim))<;>obtain⟨rfl,rfl⟩:=h;case add=>
  refine⟨.string ⟨(a++b).toArray⟩,?_,V2⟩;have hz:(ByteArray.mk a.toArray).size=a.length∧(ByteArray.mk b.toArray).size=b.length:=⟨A4d,A4d⟩;have hle:¬(((ByteArray.mk a.toArray).size+(ByteArray.mk b.toArray).size:Nat):Int)>IntKind.i64.max:=by rw[hz.1,hz.2];have h1:=hs.1;grind[IntKind.max,IntKind.bits]
  have hap:ByteArray.mk a.toArray++ByteArray.mk b.toArray=ByteArray.mk (a++b).toArray:=by apply ByteArray.ext;simp_all
  simp_all[binOp,Op.stringOp]
 all_goals simp_all[binOp,Op.stringOp,Rep]
theorem A8z {P:Program}{w:World}{bs:List Nat}{H:Hz}{x y:AVal}{cx cy:Value}{r:Bool}{t:TypeId}{d:TypeDesc}(hx:Rep F bs H w x cx)(hy:Rep F bs H w y cy)(h:A0x x y=some r)(hd:X3 y d=true)(hu:P.underlying t=some d):
 (Op.equal t cx cy).run P w= .ok r w∧(∀c,cx≠ .agg c)∧(∀op,binOp op t cx cy=(match op with|.eql=>do pure (.bool<|←Op.equal t cx cy)|.neq=>do pure (.bool<|!(←Op.equal t cx cy))|_=>binOp op t cx cy)):=by
 unfold A0x at h;split at h<;>first|(cases h;done)|(injection h with h;subst h)
 all_goals(cases d<;>simp only[X3,bFt]at hd)
 all_goals simp only[Rep]at hx hy
 case h_1=>subst hx;subst hy;exact⟨(λn=>by simp only[Op.equalIn,sRb,A7 w hu,rAo];rfl:∀n,(Op.equalIn (n+1) t _ _).run P w= .ok _ w) 9999,λc e=>by grind,λop=>by cases op<;>rfl⟩
 case h_2=>subst hx;subst hy;exact⟨(λn=>by simp only[Op.equalIn,sRb,A7 w hu,rAo];rfl:∀n,(Op.equalIn (n+1) t _ _).run P w= .ok _ w) 9999,λc e=>by grind,λop=>by cases op<;>rfl⟩
 case h_3=>subst hy;obtain⟨b,base,u,rfl,_⟩:=hx;exact⟨(λn=>by simp only[Op.equalIn,sRb,A7 w hu,rAo];rfl:∀n,(Op.equalIn (n+1) t _ _).run P w= .ok _ w) 9999,λc e=>by grind,λop=>by cases op<;>rfl⟩
 case h_4=>subst hx;subst hy;exact⟨(λn=>by simp only[Op.equalIn,sRb,A7 w hu,rAo];rfl:∀n,(Op.equalIn (n+1) t _ _).run P w= .ok _ w) 9999,λc e=>by grind,λop=>by cases op<;>rfl⟩
 case h_5=>subst hy;obtain⟨a,rfl⟩:=hx;exact⟨(λn=>by simp only[Op.equalIn,sRb,A7 w hu,rAo];rfl:∀n,(Op.equalIn (n+1) t _ _).run P w= .ok _ w) 9999,λc e=>by grind,λop=>by cases op<;>rfl⟩
 case h_6 k e es=>subst hy;obtain⟨a,cap,vs,rfl,hl,_,hrow⟩:=hx;cases a with|none=>have:=hl.length;rw[hrow.1]at this;simp at this|some a=>exact⟨(λn=>by simp only[Op.equalIn,sRb,A7 w hu,rAo];rfl:∀n,(Op.equalIn (n+1) t _ _).run P w= .ok _ w) 9999,λc e=>by grind,λop=>by cases op<;>rfl⟩
 case h_7=>subst hy;obtain⟨⟨a,c,_,rfl⟩,_⟩:=hx;exact⟨(λn=>by simp only[Op.equalIn,sRb,A7 w hu,rAo];rfl:∀n,(Op.equalIn (n+1) t _ _).run P w= .ok _ w) 9999,λc e=>by grind,λop=>by cases op<;>rfl⟩
 case h_8=>subst hy;obtain⟨⟨a,rfl⟩,_⟩:=hx;exact⟨(λn=>by simp only[Op.equalIn,sRb,A7 w hu,rAo];rfl:∀n,(Op.equalIn (n+1) t _ _).run P w= .ok _ w) 9999,λc e=>by grind,λop=>by cases op<;>rfl⟩
 case h_9=>subst hy;obtain⟨⟨a,rfl⟩,_⟩:=hx;exact⟨(λn=>by simp only[Op.equalIn,sRb,A7 w hu,rAo];rfl:∀n,(Op.equalIn (n+1) t _ _).run P w= .ok _ w) 9999,λc e=>by grind,λop=>by cases op<;>rfl⟩
 case h_10=>subst hx;subst hy;exact⟨(λn=>by simp only[Op.equalIn,sRb,A7 w hu,rAo];rfl:∀n,(Op.equalIn (n+1) t _ _).run P w= .ok _ w) 9999,λc e=>by grind,λop=>by cases op<;>rfl⟩
 case h_11=>subst hy;obtain⟨fs,cs,rfl,_⟩:=hx;exact⟨(λn=>by simp only[Op.equalIn,sRb,A7 w hu,rAo];rfl:∀n,(Op.equalIn (n+1) t _ _).run P w= .ok _ w) 9999,λc e=>by grind,λop=>by cases op<;>rfl⟩
 case h_12=>subst hx;subst hy;exact⟨(λn=>by simp only[Op.equalIn,sRb,A7 w hu,rAo];rfl:∀n,(Op.equalIn (n+1) t _ _).run P w= .ok _ w) 9999,λc e=>by grind,λop=>by cases op<;>rfl⟩
 case h_13=>subst hy;obtain⟨u,rfl,_⟩:=hx;exact⟨(λn=>by simp only[Op.equalIn,sRb,A7 w hu,rAo];rfl:∀n,(Op.equalIn (n+1) t _ _).run P w= .ok _ w) 9999,λc e=>by grind,λop=>by cases op<;>rfl⟩
theorem abin_ok {P:Program}{w:World}{bs:List Nat}{H:Hz}{op:BinOp}{t:TypeId}{d:Option TypeDesc}{x y:AVal}{cx cy:Value}{v:AVal}{side:List (Int×Int)}{ox oy:Operand}
 (hx:Rep F bs H w x cx) (hy:Rep F bs H w y cy) (h:Y2 op d x y=some (v,side)) (hs:Ag side) (hu:∀d',d=some d'→P.underlying t=some d')
 (hc:∀ms,d=some (.interface ms)→∃c,oy= .const c):
 ∃cv,(do eqGuard op t ox oy cx cy;binOp op t cx cy:Sem Value).run P w= .ok cv w∧Rep F bs H w v cv:=by
 have rest:∀{x y:AVal}{cx cy:Value},Rep F bs H w x cx→Rep F bs H w y cy→
  A0o op d x y=some (v,side)→∃cv,(do eqGuard op t ox oy cx cy;binOp op t cx cy:Sem Value).run P w= .ok cv w∧Rep F bs H w v cv:=by
  intro x y cx cy hx hy h;unfold A0o at h;cases d with
  |none=>cases h
  |some d=>
   simp only at h;cases hn:A0x x y with
   |none=>simp[hn]at h
   |some r=>
    simp only[hn]at h;cases hd:X3 y d with
    |false=>rw[hd]at h;cases h
    |true=>
     simp only[hd,cond_true]at h;obtain⟨he,hagg,hb⟩:=A8z (P:=P) hx hy hn hd<|hu d rfl;have hg:(eqGuard op t ox oy cx cy).run P w= .ok () w:=by
      refine Qb op t ox oy cx cy ?_ hagg;by_cases hnn:cx= .nilIface∧cy= .nilIface
      ·refine .inr ?_;obtain⟨_,rfl⟩:=hnn;cases d<;>cases y<;>simp only[X3,bFt]at hd<;>simp only[Rep]at hy<;>first
       |(cases hy;done)
       |exact hc _ rfl
      grind
     cases op<;>simp only[iS,iP,reduceCtorEq]at h<;>(try (exact h.elim))<;>obtain⟨rfl,rfl⟩:=h;·simp_all[Rep]
     ·simp_all[Rep]
 unfold Y2 at h;split at h
 ·rename_i k a k' b;simp only[Rep]at hx hy;subst hx;subst hy;have hg:(eqGuard op t ox oy (.int k a)<|.int k' b).run P w= .ok () w:=Qb op t ox oy _ _ (.inl (λe=>by cases e.1)) (λc e=>by injection e);have arith:cond (Wg k k') (A1k op k a b) none=some (v,side)→(op≠ .shl∧op≠ .shr)→∃cv,(do eqGuard op t ox oy (.int k a) (.int k' b);binOp op t (.int k a) (.int k' b):Sem Value).run P w= .ok cv w∧Rep F bs H w v cv:=by
   intro h' _;cases hk:Wg k k' with
   |false=>rw[hk]at h';cases h'
   |true=>rw[hk,cond_true]at h';have:=A05 hk;subst this;obtain⟨cv,h1,h2⟩:=aint_ok (P:=P) (w:=w) (bs:=bs) (H:=H) t h' hs;exact⟨cv,by simp_all,h2⟩
  cases op;case shl=>
   simp only[iS,iP]at h;obtain⟨rfl,rfl⟩:=h;have h0:¬b<0:=by have:=hs.1;omega
   exact⟨.int k<|k.wrap<|a*2^(min b.toNat k.bits),bY147,V2⟩
  case shr=>
   simp only[iS,iP]at h;obtain⟨rfl,rfl⟩:=h;have h0:¬b<0:=by have:=hs.1;omega
   exact⟨.int k<|a.fdiv<|2^(min b.toNat k.bits),bY147,V2⟩
  all_goals exact arith h Ax
 ·simp_all[Rep,Qb,astr_ok]
 grind
def aun (op:UnOp):AVal→Option AVal
 |.bool b=>match op with
  |.not=>some (.bool<|!b)|_=>none
 |.int k n=>match op with
  |.neg=>some (.int k<|k.wrap<|0-n)|_=>none
 |_=>none
theorem aun_ok {P:Program}{w:World}{bs:List Nat}{H:Hz}{op:UnOp}{x v:AVal}{cx:Value}(hx:Rep F bs H w x cx)(h:aun op x=some v):
 ∃cv,(Op.unary op cx).run P w= .ok cv w∧Rep F bs H w v cv:=by
 cases x<;>simp only[aun]at h<;>try (cases h;done)
 ·simp only[Rep]at hx;subst hx;cases op<;>simp only[iS,reduceCtorEq]at h;subst h;exact⟨_,rfl,V2⟩
 ·simp only[Rep]at hx;subst hx;cases op<;>simp only[iS,reduceCtorEq]at h;subst h;exact⟨_,rfl,V2⟩
def A8w :AVal→Option Int
 |.str s=>some (s.length:Nat)|.row _ es=>some (es.length:Nat)|.nilSl=>some 0|.emp=>some 0|.hsl _ _ _ len _=>some (len:Nat)|_=>none
def lenable (P:Program)(t:TypeId):Bool:=match P.underlying t with|some .string=>true|some (.slice _)=>true|_=>false
theorem alen_ok {P:Program}{w:World}{bs:List Nat}{H:Hz}{x:AVal}{cx:Value}{n:Int}{t T:TypeId}{xs:Array Value}{ts:Array TypeId}(hx:Rep F bs H w x cx)(h:A8w x=some n)(ht:ts[0]?=some t)(hxs:xs[0]?=some cx)(hd:∃d,P.underlying t=some d∧((d= .string∧∃s,x= .str s)∨((∃e,d= .slice e)∧∀s,x≠ .str s))):
 (Builtin.len_ ts T xs).run P w= .ok (.int .i64 n) w:=by
 obtain⟨d,hu,hd⟩:=hd
 have key:∀r,(∀w':World,w'=w→(match d,cx with
  |.string,.string s=>pure (goInt s.size)|.slice _,.slice _ n _=>pure (goInt n)|_,_=>stuck "" :Sem Value).run P w'= .ok r w')→(Builtin.len_ ts T xs).run P w= .ok r w:=by
  intro r hr;have:=hr w Z;simp only[Builtin.len_,ht,hxs,sRb,A7 w hu,rAo];grind[run_stuck]
 apply key;rintro w' rfl;cases x<;>simp only[A8w,iS,reduceCtorEq]at h<;>simp only[Rep]at hx
 ·rcases hd with⟨rfl,_⟩|⟨_,hn⟩;·simp_all[goInt,ByteArray.size]
  grind
 ·rcases hd with⟨_,s,hs⟩|⟨⟨e,rfl⟩,_⟩;·cases hs
  ·subst hx;subst h;rfl
 ·rcases hd with⟨_,s,hs⟩|⟨⟨e,rfl⟩,_⟩;·cases hs
  ·obtain⟨a,rfl⟩:=hx;subst h;rfl
 ·rcases hd with⟨_,s,hs⟩|⟨⟨e,rfl⟩,_⟩;·cases hs
  ·obtain⟨a,cap,vs,rfl,_⟩:=hx;subst h;rfl
 ·rcases hd with⟨_,s,hs⟩|⟨⟨e,rfl⟩,_⟩;·cases hs
  ·obtain⟨⟨a,c,_,rfl⟩,_⟩:=hx;subst h;rfl
theorem A1m {k:Nat}:∀{vs:List Value}{i:Nat}{u:Value} (_:∀v∈vs,v.cells.size=k) (_:vs[i]?=some u) {j:Nat}{x:Value} (_:u.cells.toList[j]?=some x),(flat vs)[i*k+j]?=some x
 | [],_,_,_,h,_,_,_=>Qz|v::vs,0,u,hk,h,j,x,hx=>by simp at h;subst h;simp only[flat,List.flatMap_cons,Nat.zero_mul,Nat.zero_add];grind|v::vs,i+1,u,hk,h,j,x,hx=>by have hv:=hk v Ax;have ih:=A1m (vs:=vs) (i:=i) (λu hu=>hk u (by simp[hu])) (by grind) hx;grind[flat]
def B3 (s:Bz)(lo hi:Option Int):AV:=match lo,hi with|none,none=>(.str s,[])|some l,none=>(.str<|s.drop l.toNat,[(0,l),(l,(s.length:Nat))])|none,some h=>(.str<|s.take h.toNat,[(0,h),(h,(s.length:Nat))])|some l,some h=>(.str<|(s.take h.toNat).drop l.toNat,[(0,l),(l,h),(h,(s.length:Nat))])
def Ci (k:Nat)(es:List AVal)(lo hi:Option Int):AV:=match lo,hi with|none,none=>(.row k es,[])|some l,none=>(.row k<|es.drop l.toNat,[(0,l),(l,(es.length:Nat))])|none,some h=>(.row k<|es.take h.toNat,[(0,h),(h,(es.length:Nat))])|some l,some h=>(.row k<|(es.take h.toNat).drop l.toNat,[(0,l),(l,h),(h,(es.length:Nat))])
theorem Hw {P:Program}{w:World}{k:IntKind}{i:Int}{y:Nat}{code:BoundsCode}(h0:0≤i)(h1:i≤y):
 (Instr.sliceBound (.int k i) y code).run P w= .ok i.toNat w:=by
 simp[Instr.sliceBound,asIntOf,h0,h1]
theorem D8 {P:Program}{w:World}(isSlice:Bool)(len cap:Nat)(hlc:len≤cap){clo chi:Option Value}{lo hi:Option Int}
 (hlo:(lo=none∧clo=none)∨∃k n,lo=some n∧clo=some (.int k n)) (hhi:(hi=none∧chi=none)∨∃k n,hi=some n∧chi=some (.int k n))
 (h0:0≤lo.getD 0) (h1:lo.getD 0≤hi.getD len) (h2:hi.getD len≤len):
 (Instr.sliceBounds isSlice len cap clo chi none).run P w= .ok ((lo.getD 0).toNat,(hi.getD len).toNat,cap) w:=by
 rcases hlo with⟨rfl,rfl⟩|⟨k,n,rfl,rfl⟩<;>rcases hhi with⟨rfl,rfl⟩|⟨k',n',rfl,rfl⟩<;>simp only[Option.getD]at h0 h1 h2⊢;·simp[Instr.sliceBounds]
 ·grind[Instr.sliceBounds,Sem.run_bind,Sem.run_pure,Result.andThen_ok,Hw]
 ·grind[Instr.sliceBounds,Sem.run_bind,Sem.run_pure,Result.andThen_ok,Hw]
 ·simp only[Instr.sliceBounds,sRb,Sem.run_pure,rAo];grind[Hw,Result.andThen_ok]
theorem A3z {P:Program}{w:World}{bs:List Nat}{H:Hz}{s:Bz}{clo chi:Option Value}{lo hi:Option Int}{t:TypeId}{v:AVal}{side:List (Int×Int)}
 (hu:P.underlying t=some .string)
 (hlo:(lo=none∧clo=none)∨∃k n,lo=some n∧clo=some (.int k n)) (hhi:(hi=none∧chi=none)∨∃k n,hi=some n∧chi=some (.int k n))
 (h:B3 s lo hi=(v,side)) (hs:Ag side):
 ∃cv,(Instr.sliceAt t (.string ⟨s.toArray⟩) clo chi none).run P w= .ok cv w∧Rep F bs H w v cv:=by
 have hz:(ByteArray.mk s.toArray).size=s.length:=A4d;have hb:0≤lo.getD 0∧lo.getD 0≤hi.getD (s.length:Nat)∧hi.getD (s.length:Nat)≤(s.length:Nat):=by grind[B3,Ag]
 have hr:=D8 (P:=P) (w:=w) false s.length s.length (Nat.le_refl _) hlo hhi hb.1 hb.2.1 hb.2.2;refine⟨.string<|(ByteArray.mk s.toArray).extract (lo.getD 0).toNat (hi.getD (s.length:Nat)).toNat,?_,?_⟩;·simp_all[Instr.sliceAt,Instr.slice,A7]
 ·have hv:v= .str (((s.drop (lo.getD 0).toNat)).take<|(hi.getD (s.length:Nat)).toNat-(lo.getD 0).toNat):=by cases lo<;>cases hi<;>simp only[B3,iP]at h<;>obtain⟨rfl,_⟩:=h<;>simp only[Option.getD];all_goals grind[List.take_of_length_le,List.drop_take]
  grind[Rep,ByteArray.extract_mk]
def Ek (P:Program)(t:TypeId):Option (TypeId×Nat):=
 match P.underlying t with
 |some (.slice e)=>match P.info? e with
  |some i=>some (e,i.size)|none=>none
 |_=>none
theorem Gh {P:Program}{t e:TypeId}{k:Nat}(h:Ek P t=some (e,k)):P.underlying t=some (.slice e)∧∀w,(sizeOf e).run P w= .ok k w:=by
 unfold Ek at h;split at h;·rename_i e' hu;split at h<;>simp_all[sizeOf,E8]
 ·cases h
theorem Oc {k:Nat}:∀{vs:List Value} (_:∀v∈vs,v.cells.size=k),(flat vs).length=vs.length*k
 | [],_=>by simp[flat]|v::vs,h=>by have ih:=Oc (vs:=vs)<|λu hu=>h u (by simp[hu]);grind[flat]
theorem U1 (vs us:List Value):flat (vs++us)=flat vs++flat us:=by simp[flat]
theorem I7.sub {bs:List Nat}{w:World}{k:Nat}{a:Addr}{vs:List Value}{cap:Nat}(h:I7 F bs w (some a) vs cap)(hk:∀v∈vs,v.cells.size=k)(l m:Nat)(hl:l≤vs.length)(hm:m=cap-l):
 I7 F bs w (some (if cap=l then a else a.add (l*k))) ((vs.drop l).take m) (cap-l)∧(l+m≤cap):=by
 obtain⟨h1,h2,h3⟩:=h;have hcap:vs.length≤cap:=h2;refine⟨?_,Y⟩;have hsplit:vs=vs.take l++vs.drop l:=(List.take_append_drop l vs).symm;have hfl:(flat<|vs.take l).length=l*k:=by grind[Oc]
 have htk:(vs.drop l).take m=vs.drop l:=List.take_of_length_le (by grind);rw[htk];by_cases hc:cap=l;·have:vs.drop l=[]:=List.drop_eq_nil_of_le Y;rw[if_pos hc,this];exact⟨h1,Ax,λj u hj=>by simp[flat]at hj⟩
 ·rw[if_neg hc];have ha:a.add (l*k)=if l*k=0 then a else⟨a.block,a.off+l*k,none⟩:=by unfold Addr.add;rfl
  have hblk:(a.add<|l*k).block=a.block∧(a.add<|l*k).off=a.off+l*k∧(a.add<|l*k).spot=none:=by rw[ha];split<;>grind
  refine⟨hblk.2.2,by grind,λj u hj=>?_⟩;rw[hblk.1,hblk.2.1,Nat.add_assoc];refine h3 (l*k+j) u ?_;rw[hsplit,U1,List.getElem?_append_right Y,hfl];grind
theorem I7.take {bs:List Nat}{w:World}{a:Option Addr}{vs:List Value}{cap:Nat}(h:I7 F bs w a vs cap)(m:Nat):I7 F bs w a (vs.take m) cap:=by
 cases a with
 |none=>obtain⟨rfl,rfl⟩:=h;exact⟨Ax,rfl⟩
 |some a=>obtain⟨h1,h2,h3⟩:=h;refine⟨h1,by grind,λj u hj=>h3 j u ?_⟩;have hsplit:vs=vs.take m++vs.drop m:=(List.take_append_drop m vs).symm;rw[hsplit,U1];rw[List.getElem?_append_left (List.getElem?_eq_some_iff.1 hj).1];exact hj
theorem A4z {P:Program}{w:World}{bs:List Nat}{H:Hz}{k:Nat}{es:List AVal}{clo chi:Option Value}{lo hi:Option Int}{t e:TypeId}{v:AVal}{cx:Value}{side:List (Int×Int)}
 (ht:Ek P t=some (e,k)) (hx:Rep F bs H w (.row k es) cx)
 (hlo:(lo=none∧clo=none)∨∃k n,lo=some n∧clo=some (.int k n)) (hhi:(hi=none∧chi=none)∨∃k n,hi=some n∧chi=some (.int k n))
 (h:Ci k es lo hi=(v,side)) (hs:Ag side):
 ∃cv,(Instr.sliceAt t cx clo chi none).run P w= .ok cv w∧Rep F bs H w v cv:=by
 obtain⟨hu,hsz⟩:=Gh ht;simp only[Rep]at hx;obtain⟨a,cap,vs,rfl,hl,hk,hrow⟩:=hx;have hlen:=hl.length;have hcap:es.length≤cap:=by
  cases a with
  |none=>obtain⟨h1,h2⟩:=hrow;simp[h1]at hlen;omega
  |some a=>have:=hrow.2.1;omega
 have hb:0≤lo.getD 0∧lo.getD 0≤hi.getD (es.length:Nat)∧hi.getD (es.length:Nat)≤(es.length:Nat):=by grind[Ci,Ag]
 have hr:=D8 (P:=P) (w:=w) true es.length cap hcap hlo hhi hb.1 hb.2.1 hb.2.2;refine⟨.slice (if cap=(lo.getD 0).toNat then a else a.map (·.add ((lo.getD 0).toNat*k))) ((hi.getD (es.length:Nat)).toNat-(lo.getD 0).toNat)<|cap-(lo.getD 0).toNat,?_,?_⟩;·simp_all[Instr.sliceAt,Instr.slice,A7]
 ·have hv:v= .row k ((es.take (hi.getD (es.length:Nat)).toNat).drop (lo.getD 0).toNat):=by cases lo<;>cases hi<;>simp only[Ci,iP]at h<;>obtain⟨rfl,_⟩:=h<;>simp only[Option.getD]<;>simp
  rw[hv];simp only[Rep];refine⟨if cap=(lo.getD 0).toNat then a else a.map (·.add ((lo.getD 0).toNat*k)),cap-(lo.getD 0).toNat,(vs.take (hi.getD (es.length:Nat)).toNat).drop (lo.getD 0).toNat,?_,(hl.take _).drop _,λu hu=>hk u<|List.mem_of_mem_take<|List.mem_of_mem_drop hu,?_⟩;·grind
  ·cases a with
   |none=>obtain⟨rfl,rfl⟩:=hrow;simp[I7]
   |some a=>
    have h2:=(hrow.take (hi.getD (es.length:Nat)).toNat);have h3:=(I7.sub (k:=k) h2 (λu hu=>hk u<|List.mem_of_mem_take hu) (lo.getD 0).toNat (cap-(lo.getD 0).toNat) (by grind) Z).1;rw[List.take_of_length_le (by grind)]at h3;have he:(if cap=(lo.getD 0).toNat then some a else(some a).map (·.add ((lo.getD 0).toNat*k)))=some (if cap=(lo.getD 0).toNat then a else a.add ((lo.getD 0).toNat*k)):=by grind
    rw[he];exact h3
theorem A3y {P:Program}{w:World}{bs:List Nat}{H:Hz}{s:Bz}{k:IntKind}{i:Int}{t:TypeId}(hu:P.underlying t=some .string)(h0:0≤i)(h1:i+1≤(s.length:Nat)):
 ∃cv,(Instr.index t (.string ⟨s.toArray⟩)<|.int k i).run P w= .ok cv w∧Rep F bs H w (.int .u8 (s.getD i.toNat 0).toNat) cv:=by
 have hlt:i.toNat<s.length:=Y;have hg:(ByteArray.mk s.toArray)[i.toNat]?=some s[i.toNat]:=by rw[ByteArray.getElem?_lt' _ _ (by grind[ByteArray.size])];rfl
 simp_all[Rep,Instr.index,asIntOf,A7]
theorem A4x {P:Program}{w:World}{bs:List Nat}{H:Hz}{kk:Nat}{es:List AVal}{k:IntKind}{i:Int}{t e:TypeId}{cx:Value}(ht:Ek P t=some (e,kk))(hk1:1≤kk)(hx:Rep F bs H w (.row kk es) cx)(h0:0≤i)(h1:i+1≤(es.length:Nat))(dflt:AVal):
 ∃cv,(Instr.indexAt t cx<|.int k i).run P w= .ok cv w∧Rep F bs H w (.eptr (es.getD i.toNat dflt) 0) cv:=by
 obtain⟨hu,hsz⟩:=Gh ht;simp only[Rep]at hx;obtain⟨a,cap,vs,rfl,hl,hk,hrow⟩:=hx;have hlt:i.toNat<es.length:=Y;have hget:es[i.toNat]?=some (es.getD i.toNat dflt):=by grind
 obtain⟨u,hu',hru⟩:=hl.get hget;cases a with
 |none=>obtain⟨h2,_⟩:=hrow;subst h2;simp at hu'
 |some a=>
  obtain⟨h2,h3,h4⟩:=hrow;obtain⟨ab,ao,asp⟩:=a;simp only at h2;subst h2;have hus:u.cells.size=kk:=hk u<|mGe hu';have hx0:∀j x,u.cells.toList[j]?=some x→(ab∉bs∧¬F ab)∧w.cell? ⟨ab,ao+i.toNat*kk+j,none⟩=some x:=λj x hx=>by have:=h4 _ _<|A1m hk hu' hx;grind
  have h00:∃x,u.cells.toList[0]?=some x:=⟨u.cells.toList[0]'(L2),gGe _⟩;obtain⟨x0,hx00⟩:=h00;obtain⟨hnb,hc0⟩:=hx0 0 x0 hx00;refine⟨.pointer<|some ⟨ab,ao+i.toNat*kk,none⟩,?_,?_⟩
  ·have hii:0≤i∧i<(es.length:Int):=by omega
   simp only[Instr.indexAt,asIntOf,sRb,Sem.run_pure,rAo,A7 w hu,hii,and_self,if_true,hsz,Addr.add_at]
  ·simp only[Rep];exact⟨ab,ao+i.toNat*kk,u,Ax,hru,hnb,World.block_lt_of_cell? w ⟨ab,ao+i.toNat*kk+0,none⟩ hc0,λj x hx=>(hx0 j x hx).2⟩
theorem A47 {P:Program}{w:World}{bs:List Nat}{H:Hz}{kk id off len:Nat}{cap:Option Nat}{k:IntKind}{i:Int}{t e:TypeId}{cx:Value}(ht:Ek P t=some (e,kk))(hlive:Nx H id=true)(hx:Rep F bs H w (.hsl kk id off len cap) cx)(h0:0≤i)(h1:i+1≤(len:Nat)):
 ∃cv,(Instr.indexAt t cx<|.int k i).run P w= .ok cv w∧Rep F bs H w (.ptr id<|off+i.toNat*kk) cv:=by
 obtain⟨hu,hsz⟩:=Gh ht;simp only[Rep]at hx;obtain⟨_,hx⟩:=hx;unfold Nx at hlive;split at hlive
 ·rename_i T cs ho;unfold Ce at hx;rw[ho]at hx;obtain⟨_,hx⟩:=hx;obtain⟨b,c,hb,rfl,hlc,_,_⟩:=hx Ax;refine⟨.pointer<|some ⟨b,off+i.toNat*kk,none⟩,?_,?_⟩
  ·have hii:0≤i∧i<(len:Int):=by omega
   simp only[Instr.indexAt,asIntOf,sRb,Sem.run_pure,rAo,A7 w hu,hii,and_self,if_true,hsz,Addr.add_at]
  grind[Rep,Ey]
 grind
theorem A1l {P:Program}{w:World}{bs:List Nat}{H:Hz}{kk id len:Nat}{cap:Option Nat}{k:IntKind}{i:Int}{t e:TypeId}{cx:Value}(ht:Ek P t=some (e,kk))(hgood:Pn H id (len*kk)=true)(hx:Rep F bs H w (.hsl kk id 0 len cap) cx)(h0:0≤i)(h1:i+1≤(len:Nat)):
 ∃cv,(Instr.indexAt t cx<|.int k i).run P w= .ok cv w∧Rep F bs H w (.optr id (i.toNat*kk)<|len*kk) cv:=by
 obtain⟨hu,hsz⟩:=Gh ht;simp only[Rep]at hx;obtain⟨_,hx⟩:=hx;unfold Pn at hgood;split at hgood
 ·rename_i T cs ho;have hlen:=nBq hgood;unfold Ce at hx;rw[ho]at hx;obtain⟨hle,hx⟩:=hx;obtain⟨b,c,hb,rfl,hlc,_,_⟩:=hx<|λ_=>⟨rfl,hlen.symm⟩;refine⟨.pointer<|some ⟨b,0+i.toNat*kk,none⟩,?_,?_⟩
  ·have hii:0≤i∧i<(len:Int):=by omega
   simp only[Instr.indexAt,asIntOf,sRb,Sem.run_pure,rAo,A7 w hu,hii,and_self,if_true,hsz,Addr.add_at]
  simp_all[Rep,Fq]
 grind
def P4 (P:Program)(t:TypeId):Option (Nat×Nat):=
 match P.underlying t with
 |some (.array n e)=>match P.info? e with
  |some i=>some (n,i.size)|none=>none
 |_=>none
theorem Xa {P:Program}{t:TypeId}{n k:Nat}(h:P4 P t=some (n,k)):∃e,P.underlying t=some (.array n e)∧∀w,(sizeOf e).run P w= .ok k w:=by
 unfold P4 at h;split at h;·rename_i n' e' hu;split at h<;>simp_all[sizeOf,E8]
 ·cases h
theorem A5l {P:Program}{w:World}{bs:List Nat}{H:Hz}{n kk:Nat}{k:IntKind}{i:Int}{t:TypeId}{p q:AVal}{cp:Value}(ht:P4 P t=some (n,kk))(hp:Rep F bs H w p cp)(h0:0≤i)(h1:i+1≤(n:Nat))(h:A0s H (i.toNat*kk) p=some q):
 ∃cv,(Instr.indexAt t cp<|.int k i).run P w= .ok cv w∧Rep F bs H w q cv:=by
 obtain⟨e,hu,hsz⟩:=Xa ht;obtain⟨b,o,rfl,hq⟩:=A6k hp h;refine⟨_,?_,hq⟩;have hii:0≤i∧i<(n:Int):=Y;simp only[Instr.indexAt,asIntOf,sRb,Sem.run_pure,rAo,A7 w hu,Instr.sureAddr,hii,and_self,if_true,hsz,Addr.add_at]
theorem Aaq {P:Program}{w:World}{bs:List Nat}{H:Hz}{f:FuncId}{first cap args:List AVal}{cf:Value}{cargs:List Value}(hf:Rep F bs H w (.fn f first cap) cf)(ha:Aa F bs H w args cargs)
 (hb:∃fn c,P.funcs[f]?=some fn∧fn.body=some c∧fn.name≠ "runtime.NumGoroutine"):
 ∃us:List Value,(do let d←Deferred.ofValue cf cargs.toArray;invoke d.target d.args:Sem Next).run P w= .ok (.enter f us.toArray) w∧Aa F bs H w (first++args++cap) us:=by
 obtain⟨fn,c,h1,h2,h3⟩:=hb;simp only[Rep]at hf;obtain⟨fs,cs,rfl,hfs,hcs⟩:=hf;refine⟨fs++cargs++cs,?_,(hfs.append ha).append hcs⟩;simp[Deferred.ofValue,invoke,callFunc,h1,h2,h3]
theorem Y3 (ρ:Operand→Value)(f:Operand)(args:Array Operand)(ts:Array TypeId)(T:TypeId):
 resolve ρ {callee:=.value f,args:=args,argTypes:=ts} T=Deferred.ofValue (ρ f) (args.map ρ):=rfl
def J0 (n:Nat)(agg:Bool)(off:Nat):AVal→Option AVal
 |.agg cs=>match agg with
  |true=>some<|.agg<|(cs.drop off).take n
  |false=>match cs.drop off with
   |c::_=>some c| []=>none
 |_=>none
def Uk :List AVal→List (Nat×Nat×AVal)→Option (List AVal)
 |cs,[]=>some cs|cs,(off,n,x)::r=>cond (Nat.beq x.cells.length n&&Nat.ble (off+n) cs.length) (Uk (spl cs off x.cells) r) none
theorem A2b (off:Nat):∀(vs:List Value) (i:Nat) (cells:Array Value),off+i+vs.length≤cells.size→
 ((vs.zipIdx i).foldl (λcs (c,j)=>cs.setIfInBounds (off+j) c) cells).toList=cells.toList.take (off+i)++(vs++cells.toList.drop (off+i+vs.length))
 | [],i,cells,_=>Ax|v::vs,i,cells,h=>by simp only[List.zipIdx_cons,List.foldl_cons];rw[A2b off vs (i+1) (cells.setIfInBounds (off+i) v) (by grind)];have e:=list_seg_step cells.toList (off+i) v vs Y;grind
theorem A0l {bs:List Nat}{H:Hz}{w:World}{place:Nat→Option (Nat×Nat)}:∀{ps:List (Nat×Value)}{qs:List (Nat×Nat×AVal)}{cs:List AVal}{cells:Array Value}{r:List AVal},
 Aa F bs H w cs cells.toList→(∀(j:Nat) (p:Nat×Value),ps[j]?=some p→∃q:Nat×Nat×AVal,qs[j]?=some q∧place p.1=some (q.1,q.2.1)∧Rep F bs H w q.2.2 p.2)→qs.length=ps.length→Uk cs qs=some r→
 ∃cells',Instr.fill place cells ps=some cells'∧Aa F bs H w r cells'.toList
 | [],qs,cs,cells,r,hl,_,hn,h=>by have:qs=[]:=List.eq_nil_of_length_eq_zero Y;subst this;simp only[Uk,iS]at h;subst h;exact⟨cells,Z,hl⟩
 |(i,v)::ps,qs,cs,cells,r,hl,hp,hn,h=>by
  cases qs with
  |nil=>simp at hn
  |cons q qs=>
   obtain⟨q',hq,hpl,hr⟩:=hp 0 (i,v) rfl;simp at hq;subst hq;obtain⟨off,n,x⟩:=q;simp only[Uk]at h;cases hc:(Nat.beq x.cells.length n&&Nat.ble (off+n) cs.length)with
   |false=>rw[hc]at h;cases h
   |true=>
    rw[hc,cond_true]at h;simp only[bAt]at hc;have h1:=nBq hc.1;have h2:=Nat.le_of_ble_eq_true hc.2;have hxc:=hr.cells;have hxl:=hxc.length;have hll:=hl.length;simp only at hpl hxl hxc;have hsz:v.cells.size=n:=by grind
    have hfold:=A2b off v.cells.toList 0 cells (by grind);simp only[Nat.add_zero]at hfold;have hl':Aa F bs H w (spl cs off x.cells) ((v.cells.toList.zipIdx 0).foldl (λcs (c,j)=>cs.setIfInBounds (off+j) c) cells).toList:=by rw[hfold,spl,←hxl];exact(hl.take off).append<|hxc.append<|hl.drop _
    obtain⟨cells',hf,hr'⟩:=A0l (ps:=ps) (qs:=qs) hl' (λj p hj=>hp (j+1) p (by grind)) (by grind) h;refine⟨cells',?_,hr'⟩;simp only[Instr.fill,hpl];have hll':cells.size=cs.length:=Y;rw[if_neg L2];rw[←hf,←Array.foldl_toList,Array.toList_zipIdx]
def D6 (k:Nat)(H:Hz):AVal→Option (List AVal×Nat)
 |.row k' es=>cond (Nat.beq k k') (some (es.flatMap AVal.cells,es.length)) none|.nilSl=>some ([],0)|.emp=>some ([],0)
 |.hsl k' id off len _=>cond (Nat.beq k k') (match H[id]? with
  |some (.cells _ cs false)=>some ((cs.drop off).take (len*k),len)|some (.cells _ cs true)=>cond (Nat.beq (len*k) cs.length&&Nat.beq off 0) (some (cs,len)) none|_=>none) none
 |_=>none
theorem Aa.flat {bs:List Nat}{H:Hz}{w:World}:∀{es:List AVal}{vs:List Value},Aa F bs H w es vs→Aa F bs H w (es.flatMap AVal.cells) (flat vs)
 | [],_,h=>by simp only[Aa]at h;subst h;simp[Abs.flat,Aa]|e::es,_,h=>by simp only[Aa]at h;obtain⟨u,us,rfl,h1,h2⟩:=h;simp only[Abs.flat,List.flatMap_cons];exact h1.cells.append<|Aa.flat h2
theorem Tt {W0 w:World}{bs:List Nat}{H:Hz}(hh:Ad W0 F bs H w){k:Nat}{y:AVal}{cy:Value}{ys:List AVal}{m:Nat}(hy:Rep F bs H w y cy)(h:D6 k H y=some (ys,m)):
 ∃a c us,cy= .slice a m c∧Aa F bs H w ys us∧us.length=m*k∧(a=none→m=0)∧∀a',a=some a'→∀j u,us[j]?=some u→w.cell? (a'.add j)=some u:=by
 cases y<;>simp only[D6]at h<;>try (cases h;done)
 case nilSl=>simp only[iS,iP]at h;obtain⟨rfl,rfl⟩:=h;simp_all[Rep,Aa]
 case emp=>simp only[iS,iP]at h;obtain⟨rfl,rfl⟩:=h;simp only[Rep]at hy;obtain⟨a,rfl⟩:=hy;simp_all[Aa]
 case row k' es=>
  cases hk:Nat.beq k k' with
  |false=>rw[hk]at h;cases h
  |true=>
   rw[hk]at h;have:=nBq hk;subst this;simp only[cond_true,iS,iP]at h;obtain⟨rfl,rfl⟩:=h;simp only[Rep]at hy;obtain⟨a,cap,vs,rfl,hl,hk,hrow⟩:=hy;refine⟨a,cap,flat vs,Z,hl.flat,by rw[Oc hk,hl.length],λha=>?_,λa' ha j u hj=>?_⟩;·subst ha;have:=hl.length;rw[hrow.1]at this;grind
   ·subst ha;obtain⟨h1,_,h3⟩:=hrow;obtain⟨ab,ao,asp⟩:=a'<;>grind[Addr.add_at]
 case hsl k' id off len cap=>
  cases hk:Nat.beq k k' with
  |false=>rw[hk]at h;cases h
  |true=>
   rw[hk]at h;have:=nBq hk;subst this;simp only[cond_true]at h;simp only[Rep]at hy;obtain⟨_,hy⟩:=hy;unfold Ce at hy;split at h
   ·rename_i T cs ho;simp only[iS,iP]at h;obtain⟨rfl,rfl⟩:=h;rw[ho]at hy;obtain⟨hle,hy⟩:=hy;obtain⟨b,c,hb,rfl,_⟩:=hy Ax;obtain⟨vs,rest,fr,hcell,hl,_⟩:=hh.obj id _ b ho hb;refine⟨some ⟨b,off,none⟩,c,(vs.drop off).take<|len*k,rfl,(hl.drop off).take _,?_,(λh=>by cases h),λa' ha j u hj=>?_⟩;·have:=hl.length;grind
    ·injection ha with ha;subst ha;rw[Addr.add_at,cell_of_row w b _ _ T fr hcell];grind
   ·rename_i T cs ho;cases hc:(Nat.beq (len*k) cs.length&&Nat.beq off 0)with
    |false=>rw[hc]at h;cases h
    |true=>rw[hc]at h;simp only[bAt]at hc;have h1:=nBq hc.1;have h2:=nBq hc.2;subst h2;simp only[cond_true,iS,iP]at h;obtain⟨rfl,rfl⟩:=h;rw[ho]at hy;obtain⟨hle,hy⟩:=hy;obtain⟨b,c,hb,rfl,_⟩:=hy<|λ_=>⟨rfl,h1⟩;obtain⟨vs,rest,fr,hcell,hl,_⟩:=hh.obj id _ b ho hb;refine⟨some ⟨b,0,none⟩,c,vs,rfl,hl,by rw[hl.length,h1],(λh=>by cases h),λa' ha j u hj=>?_⟩;injection ha with ha;subst ha;rw[Addr.add_at,cell_of_row w b _ _ _ fr hcell];have hjl:=(List.getElem?_eq_some_iff.1 hj).1;simp only[Nat.zero_add,List.getElem?_toArray];rw[List.getElem?_append_left hjl];exact hj
   ·cases h
theorem Ad.drew {W0 w:World}{bs:List Nat}{H:Hz}(h:Ad W0 F bs H w):Ad W0 F bs H w.drew∧Ext bs H w bs H w.drew:=by
 have he:Ext bs H w bs H w.drew:=⟨Nat.le_refl _,λ_ _ _=>Z,λ_ h=>.inl h,λi o ho=>⟨o,ho,by
  cases o with
  |dead=>simp[Bd]|iter s p=>exact .inr ⟨s,p,rfl,rfl⟩|mp es=>exact .inr ⟨es,rfl,rfl⟩
  |cells T cs op=>cases op with
   |false=>exact .inr ⟨T,cs,rfl,rfl,rfl⟩|true=>exact .inr ⟨T,cs,rfl,.inr ⟨rfl,rfl,λ_ _=>rfl⟩⟩⟩⟩
 exact⟨⟨h.len,h.base.drew,h.low,h.nodup,h.forb,λi o b ho hb=>(h.obj i o b ho hb).ext he Z⟩,he⟩
theorem Y8 {W0 w:World}{bs:List Nat}{H:Hz}(h:Ad W0 F bs H w){id:Nat}{T:TypeId}(hT:Nat.blt T 1000000=true){cs cs':List AVal}(ho:H[id]?=some (.cells T cs true))(hlt:cs.length<cs'.length)(us rest:List Value)
 (hl:Aa F bs H w cs' us):
 Ad W0 F (bs.set id w.heap.size) (H.set id<|.cells T cs' true) (w.alloc<|.cells (us++rest).toArray T)∧
 Ext bs H w (bs.set id w.heap.size) (H.set id<|.cells T cs' true) (w.alloc<|.cells (us++rest).toArray T):=by
 have hid:id<H.length:=(List.getElem?_eq_some_iff.1 ho).1;have hidb:id<bs.length:=by rw[h.len];exact hid
 have he:Ext bs H w (bs.set id w.heap.size) (H.set id<|.cells T cs' true) (w.alloc<|.cells (us++rest).toArray T):=by
  refine⟨Ax,λk hk _=>Below.heap_alloc w _ k hk,λk hk=>?_,λj x hx=>?_⟩;·grind
  ·by_cases hij:j=id;·subst hij;rw[ho]at hx;injection hx with hx;subst hx;exact⟨_,by grind,.inr ⟨T,cs',rfl,.inl hlt⟩⟩
   ·refine⟨x,by grind,?_⟩;have hb':(bs.set id w.heap.size)[j]?=bs[j]?:=List.getElem?_set_ne<|Ne.symm hij;have hz:∀b,bs[j]?=some b→D4 (w.alloc<|.cells (us++rest).toArray T) b=D4 w b:=λb hb=>by have:b<w.heap.size:=(h.low b<|mGe hb).2;grind[D4,Below.heap_alloc]
    cases x with
    |dead=>simp[Bd]|iter s p=>exact .inr ⟨s,p,rfl,hb'⟩|mp es=>exact .inr ⟨es,rfl,hb'⟩
    |cells T cs op=>cases op with
     |false=>exact .inr ⟨T,cs,rfl,rfl,hb'⟩|true=>exact .inr ⟨T,cs,rfl,.inr ⟨rfl,hb',hz⟩⟩
 refine⟨⟨by simp[h.len],h.base.alloc h.base.size _,λb hb=>?_,?_,λb hb=>?_,λj x b hx hb=>?_⟩,he⟩
 ·rcases List.mem_or_eq_of_mem_set hb with h'|h';·have:=h.low b h';simp;omega
  ·subst h';simp;exact h.base.size
 ·rw[List.nodup_iff_pairwise_ne,List.pairwise_iff_getElem];intro i j hi hj hij;simp only[List.length_set]at hi hj;simp only[List.getElem_set];have hp:=List.pairwise_iff_getElem.1 h.nodup i j hi hj hij;have hlow:=λ(i:Nat) (hi:i<bs.length)=>(h.low (bs[i])<|List.getElem_mem hi).2;grind
 ·obtain⟨h1,h2,h3⟩:=h.forb b hb;refine⟨h1,L2,λhm=>?_⟩;grind
 ·by_cases hij:j=id;·subst hij;rw[List.getElem?_set_self hid]at hx;injection hx with hx;subst hx;rw[List.getElem?_set_self hidb]at hb;injection hb with hb;subst hb;exact⟨us,rest,(0,0),by grind[Ij,heap_alloc_new],Aa.ext he _ _ hl,λ_=>rfl⟩
  ·rw[List.getElem?_set_ne<|Ne.symm hij]at hx hb;exact(h.obj j x b hx hb).ext he<|Below.heap_alloc w _ b (h.low b<|mGe hb).2
def Gg (P:Program)(t:TypeId):Option (TypeId×Nat×Nat):=
 match P.underlying t with
 |some (.slice e)=>match P.info? e with
  |some i=>match i.zero with
   |some z=>cond (Nat.beq z.cells.size i.size&&Nat.ble 1 i.size&&Nat.blt e 1000000) (some (e,i.size,i.bytes)) none|none=>none
  |none=>none
 |_=>none
theorem Jz {P:Program}{t e:TypeId}{k b:Nat}(h:Gg P t=some (e,k,b)):P.underlying t=some (.slice e)∧1≤k∧∃i z,P.info? e=some i∧i.zero=some z∧i.size=k∧i.bytes=b∧z.cells.size=k:=by
 unfold Gg at h;split at h
 ·rename_i e' hu;split at h
  ·rename_i i hi;split at h
   ·rename_i z hz;cases hc:(Nat.beq z.cells.size i.size&&Nat.ble 1 i.size&&Nat.blt e' 1000000)with
    |false=>rw[hc]at h;cases h
    |true=>rw[hc]at h;simp only[cond_true,iS,iP]at h;obtain⟨rfl,rfl,rfl⟩:=h;simp only[bAt]at hc;exact⟨hu,Nat.le_of_ble_eq_true hc.1.2,i,z,hi,hz,Z,Z,nBq hc.1.1⟩
   ·cases h
  ·cases h
 ·cases h
theorem X0 {P:Program}{t e:TypeId}{k b:Nat}(h:Gg P t=some (e,k,b)):Nat.blt e 1000000=true:=by unfold Gg at h;grind
def C6 :Int:=140737488355328
def Gl (e k b:Nat)(H:Hz)(ys:List AVal)(m:Nat):AVal→Option (AVal×Hz×List (Int×Int))
 |.nilSl=>some (.hsl k H.length 0 m none,H++[.cells e ys true],[((m*b:Nat),C6),((m:Nat),C6)])|.emp=>some (.hsl k H.length 0 m none,H++[.cells e ys true],[((m*b:Nat),C6),((m:Nat),C6)])
 |.hsl k' id off len cap=>cond (Nat.beq k k') (match H[id]? with
  |some (.cells T cs true)=>cond (Nat.beq T e&&Nat.beq off 0&&Nat.beq (len*k) cs.length) (some (.hsl k id 0 (len+m) none,H.set id<|.cells T (cs++ys) true,[(((len+m)*b:Nat),C6),((len+m:Nat),C6)])) none|some (.cells _ cs false)=>cond (match cap with|some c=>Nat.beq c len|none=>false) (some (.hsl k H.length 0 (len+m) none,H++[.cells e ((cs.drop off).take (len*k)++ys) true],[(((len+m)*b:Nat),C6),((len+m:Nat),C6)])) none
  |_=>none) none
 |_=>none
def isSl :AVal→Bool
 |.nilSl|.emp|.row _ _|.hsl _ _ _ _ _=>true|_=>false
def Qs (e k b:Nat)(H:Hz)(x y:AVal):Option (AVal×Hz×List (Int×Int)):=match D6 k H y with|none=>none|some (ys,m)=>cond (Nat.beq m 0) (cond (isSl x) (some (x,H,[])) none)<|cond (ys.all AVal.one) (Gl e k b H ys m x) none
theorem V6 {P:Program}{w:World}{t ty e:TypeId}{k:Nat}(hu:P.underlying t=some (.slice e))(hs:(sizeOf e).run P w= .ok k w)(base:Option Addr)(n c:Nat)(hnc:n≤c)(a:Option Addr)(cy:Nat):
 (Builtin.append_ #[t,t] ty #[.slice base n c,.slice a 0 cy]).run P w= .ok (.slice base n c) w:=by
 have hst:∀a':Addr,(storeCells a' []).run P w= .ok () w:=λa'=>rfl;cases a with
 |none=>cases base<;>simp[Builtin.append_,A7 w hu,hs,Builtin.lenOf,hnc,Builtin.firstCells,hst]
 |some a=>cases base<;>simp[Builtin.append_,A7 w hu,hs,Builtin.lenOf,hnc,Builtin.firstCells,loadCells,loadCellsFrom,hst]
theorem Jd (z:Array Value)(n:Nat):(Builtin.zeroCells z n).size=n*z.size:=size_zeroCells z n
theorem Wu {W0 w:World}{bs:List Nat}{H:Hz}(hh:Ad W0 F bs H w)(T k n c:Nat)(hT:Nat.blt T 1000000=true){cs:List AVal}{us:List Value}(rest:List Value)(hl:Aa F bs H w cs us)(hn:us.length=n*k)(hc:c*k=us.length+rest.length)(hnc:n≤c)(hcm:c≤maxLen):
 Rep F (bs++[w.heap.size]) (H++[.cells T cs true]) (w.alloc<|.cells (us++rest).toArray T) (.hsl k H.length 0 n none) (.slice (some ⟨w.heap.size,0,none⟩) n c)∧
 Ad W0 F (bs++[w.heap.size]) (H++[.cells T cs true]) (w.alloc<|.cells (us++rest).toArray T)∧
 Ext bs H w (bs++[w.heap.size]) (H++[.cells T cs true]) (w.alloc<|.cells (us++rest).toArray T):=by
 have he:=Ext.alloc hh.len (λb hb=>(hh.low b hb).2) (.cells (us++rest).toArray T)<|.cells T cs true;refine⟨?_,hh.alloc _ _ ⟨us,rest,(0,0),by grind[Ij,heap_alloc_new],Aa.ext he _ _ hl,λ_=>rfl⟩,he⟩;simp only[Rep,Ce,List.getElem?_concat_length];have hll:=hl.length;refine⟨⟨_,c,hnc,Z⟩,Y,λ_=>⟨w.heap.size,c,A52,Z,hnc,Ax,λ_=>⟨hcm,?_⟩⟩⟩;grind[D4,heap_alloc_new]
theorem H9 {m:Nat}(h:((m:Nat):Int)≤C6):m≤140737488355328:=by grind[C6]
theorem aapp_ok {P:Program}{W0 w:World}{bs:List Nat}{H H':Hz}(hh:Ad W0 F bs H w){t ty e:TypeId}{k b:Nat}(ht:Gg P t=some (e,k,b)){x y v:AVal}{cx cy:Value}{side:List (Int×Int)}
 (hx:Rep F bs H w x cx) (hy:Rep F bs H w y cy) (h:Qs e k b H x y=some (v,H',side)) (hs:Ag side):
 ∃cv w' bs',(Builtin.append_ #[t,t] ty #[cx,cy]).run P w= .ok cv w'∧Rep F bs' H' w' v cv∧Ad W0 F bs' H' w'∧Ext bs H w bs' H' w':=by
 obtain⟨hu,hk1,i,z,hi,hz,hisz,hiby,hzsz⟩:=Jz ht;have hTe:=X0 ht;subst hisz;subst hiby
 have hsz:(sizeOf e).run P w= .ok i.size w:=A9s;unfold Qs at h;cases hyc:D6 i.size H y with
 |none=>rw[hyc]at h;cases h
 |some p=>
  obtain⟨ys,m⟩:=p;rw[hyc]at h;simp only at h;obtain⟨a,cc,us,rfl,hl,hlen,hnone,hmem⟩:=Tt hh hy hyc;have hll:=hl.length;cases hm0:Nat.beq m 0 with
  |true=>
   have:=nBq hm0;subst this;rw[hm0,cond_true]at h;cases hsl:isSl x with
   |false=>rw[hsl]at h;cases h
   |true=>
    rw[hsl,cond_true]at h;simp only[iS,iP]at h;obtain⟨rfl,rfl,rfl⟩:=h;have hcx:∃base n c,n≤c∧cx= .slice base n c:=by
     cases x<;>simp only[isSl,bFt]at hsl<;>simp only[Rep]at hx;·grind
     ·grind
     ·obtain⟨a,cap,vs,rfl,h1,_,h3⟩:=hx;refine⟨a,_,cap,?_,Z⟩;have:=h1.length;cases a with|none=>rw[h3.1]at this;simp at this;omega|some a=>have:=h3.2.1;omega
     grind
    obtain⟨base,n,c,hnc,rfl⟩:=hcx;exact⟨_,w,bs,V6 hu hsz base n c hnc a cc,hx,hh,Ext.refl _ _ _⟩
  |false=>
   have hmpos:0<m:=by cases m<;>simp_all
   rw[hm0,cond_false]at h;cases hall:ys.all AVal.one with
   |false=>rw[hall]at h;cases h
   |true=>
    rw[hall,cond_true]at h;have hone:=hl.one hall;cases a with
    |none=>have:=hnone rfl;omega
    |some ad=>
     have hcells:=hmem ad Z;have hlt:H.length=bs.length:=hh.len.symm;have fromNil:∀base c0,cx= .slice base 0 c0→c0=0→Gl e i.size i.bytes H ys m .nilSl=some (v,H',side)→
      ∃cv w' bs',(Builtin.append_ #[t,t] ty #[cx,.slice (some ad) m cc]).run P w= .ok cv w'∧Rep F bs' H' w' v cv∧Ad W0 F bs' H' w'∧Ext bs H w bs' H' w':=by
      rintro base c0 rfl rfl h;simp only[Gl,iS,iP]at h;obtain⟨rfl,rfl,rfl⟩:=h;have hr1:=H9 hs.1;have hr2:=H9 hs.2.1;have hg:=grownCap_ge w m 0 e;have hgm:=grownCap_le_maxLen w m 0 e (by grind[maxLen]);obtain⟨hdr,hde⟩:=hh.drew
      obtain⟨h1,h2,h3⟩:=Wu (W0:=W0) hdr e i.size m (grownCap w m 0 e) hTe (Builtin.zeroCells z.cells (grownCap w m 0 e-m)).toList (Aa.ext hde _ _ hl) hlen (by
       have:=Jd z.cells<|grownCap w m 0 e-m;simp only[Array.length_toList,this,hzsz,hlen]
       rw[←Nat.add_mul];grind) hg hgm
      refine⟨_,_,_,?_,h1,h2,hde.trans h3⟩;cases base with|none=>rw[run_append_nil w t ty e i z hu hi hz ad m cc us hlen hcells hmpos Y Y];congr 3;apply Array.ext';simp|some bb=>rw[run_append_grow w t ty e i z hu hi hz bb 0 0 [] Ax (λj v h=>by simp at h) ad m cc us hlen hcells Y Y (by rw[Nat.zero_add,nextslicecap_zero hmpos];omega)];simp only[Nat.zero_add];congr 3;apply Array.ext';simp
     cases x<;>simp only[Gl]at h<;>try (cases h;done)
     case nilSl=>grind[Rep,Gl]
     case emp=>grind[Rep,Gl]
     case hsl k' id off len cap=>
      cases hkk:Nat.beq i.size k' with
      |false=>rw[hkk]at h;cases h
      |true=>
       rw[hkk,cond_true]at h;have hk':=nBq hkk;subst hk';simp only[Rep]at hx;obtain⟨_,hx⟩:=hx;unfold Ce at hx;split at h
       ·rename_i T cs ho;cases hc:(Nat.beq T e&&Nat.beq off 0&&Nat.beq (len*i.size) cs.length)with
        |false=>rw[hc]at h;cases h
        |true=>
         rw[hc,cond_true]at h;simp only[iS,iP]at h;obtain⟨rfl,rfl,rfl⟩:=h;simp only[bAt]at hc;have hTq:=nBq hc.1.1;have hoff:=nBq hc.1.2;have hln:=nBq hc.2;subst hTq;subst hoff;have hr1:=H9 hs.1;have hr2:=H9 hs.2.1;rw[ho]at hx;obtain⟨_,hx⟩:=hx;obtain⟨bb,c,hb,rfl,hlc,_,hop⟩:=hx<|λ_=>⟨rfl,hln⟩;obtain⟨hcm,hcb⟩:=hop rfl;obtain⟨vs,rest,fr,hcell,hvl,hfr⟩:=hh.obj id _ bb ho hb;obtain rfl:=hfr hTe;rw[Ij hTe]at hcell;have hvlen:=hvl.length;have hbsz:D4 w bb=(vs++rest).length:=by grind[D4]
         have hlt2:cs.length<(cs++ys).length:=by rw[lAp];have:1≤m*i.size:=Nat.mul_le_mul hmpos hk1;omega
         by_cases hroom:len+m≤c
         ·have hfit:len*i.size+us.length≤(vs++rest).length:=by rw[←hbsz,←hcb,hlen,←Nat.add_mul];exact Nat.mul_le_mul_right _ hroom
          have hrun:=run_append_room (P:=P) w t ty T i hu hi bb len c (vs++rest).toArray hcell ad m cc us hlen hcells hone hroom Y;have hrow:(vs++rest).toArray.toList.take (len*i.size)++us++(vs++rest).toArray.toList.drop (len*i.size+us.length)=(vs++us)++rest.drop us.length:=by simp_all[List.drop_append]
          rw[hrow]at hrun;have hlow:=hh.low bb<|mGe hb;have hoe:Bd bs bs w (w.setRow bb ((vs++us)++rest.drop us.length).toArray) id (.cells T cs true) (.cells T (cs++ys) true):=.inr ⟨T,_,Z,.inl hlt2⟩;have hext:=Ext.upd (w':=w.setRow bb ((vs++us)++rest.drop us.length).toArray) hh.nodup ho hb Ax (λk hk=>setRow_other w bb k _ hk) hoe;refine⟨_,_,bs,hrun,?_,Ad.upd hh ho hb (Gj w _ hlow.1) Ax (λk hk=>setRow_other w bb k _ hk) hoe ⟨vs++us,rest.drop us.length,(0,0),by grind[Ij,setRow_heap],Aa.ext hext _ _<|hvl.append hl,λ_=>rfl⟩,hext⟩;simp only[Rep,Ce];have hid:=(List.getElem?_eq_some_iff.1 ho).1;rw[List.getElem?_set_self hid];refine⟨⟨_,c,hroom,Z⟩,?_,λ_=>⟨bb,c,hb,Z,hroom,Ax,λ_=>⟨hcm,?_⟩⟩⟩;·grind
          ·unfold D4;rw[setRow_heap w bb _ _ T (0,0) hcell];grind
         ·have hg:=grownCap_ge w (len+m) c T;have hgm:=grownCap_le_maxLen w (len+m) c T (by grind[maxLen])
          have hrun:=run_append_grow (P:=P) w t ty T i z hu hi hz ⟨bb,0,none⟩ len c vs Y (λj v hj=>by
           rw[Addr.add_at,cell_of_row w bb _ _ T (0,0) hcell]
           grind) ad m cc us hlen hcells Y Y (growslice_fits Y Y)
          obtain⟨hdr,hde⟩:=hh.drew;have hmv:=Y8 (W0:=W0) hdr hTe ho hlt2 (vs++us) (Builtin.zeroCells z.cells<|grownCap w (len+m) c T-(len+m)).toList<|Aa.ext hde _ _<|hvl.append hl;have harr:(vs.toArray++us.toArray++Builtin.zeroCells z.cells (grownCap w (len+m) c T-(len+m)))=((vs++us)++(Builtin.zeroCells z.cells<|grownCap w (len+m) c T-(len+m)).toList).toArray:=by grind
          rw[harr]at hrun;refine⟨_,_,_,hrun,?_,hmv.1,hde.trans hmv.2⟩;simp only[Rep,Ce];have hid:=(List.getElem?_eq_some_iff.1 ho).1;rw[List.getElem?_set_self hid];refine⟨⟨_,_,hg,Z⟩,?_,λ_=>⟨w.heap.size,_,?_,Z,hg,Ax,λ_=>⟨hgm,?_⟩⟩⟩;·grind
          ·simp_all
          ·unfold D4;have:(w.drew.alloc<|.cells ((vs++us)++(Builtin.zeroCells z.cells<|grownCap w (len+m) c T-(len+m)).toList).toArray T).heap[w.heap.size]?=some (.cells ((vs++us)++(Builtin.zeroCells z.cells<|grownCap w (len+m) c T-(len+m)).toList).toArray T):=heap_alloc_new w.drew _;rw[this];simp only[List.size_toArray,lAp,Array.length_toList,Jd,hzsz];rw[hvlen,←hln,hlen,←Nat.add_mul,←Nat.add_mul];grind
       ·rename_i T cs ho;cases cap with
        |none=>cases h
        |some c'=>
         simp only at h;cases hcl:Nat.beq c' len with
         |false=>rw[hcl]at h;cases h
         |true=>
          rw[hcl,cond_true]at h;have:=nBq hcl;subst this;simp only[iS,iP]at h;obtain⟨rfl,rfl,rfl⟩:=h;have hr1:=H9 hs.1;have hr2:=H9 hs.2.1;rw[ho]at hx;obtain⟨hle,hx⟩:=hx;obtain⟨bb,c,hb,rfl,hlc,hceq,_⟩:=hx Ax;have:=hceq c' Z;subst this;obtain⟨vs,rest,fr,hcell,hvl,_⟩:=hh.obj id _ bb ho hb;have hvlen:=hvl.length;have hg:=grownCap_ge w (c+m) c e;have hgm:=grownCap_le_maxLen w (c+m) c e (by grind[maxLen]);have hol:((vs.drop off).take<|c*i.size).length=c*i.size:=by grind
          have hrun:=run_append_grow (P:=P) w t ty e i z hu hi hz ⟨bb,off,none⟩ c c ((vs.drop off).take (c*i.size)) hol (λj v hj=>by
           rw[Addr.add_at,cell_of_row w bb _ _ T fr hcell]
           grind) ad m cc us hlen hcells Y Y (growslice_fits Y Y)
          obtain⟨hdr,hde⟩:=hh.drew;have hnew:Aa F bs H w ((cs.drop off).take (c*i.size)++ys) ((vs.drop off).take (c*i.size)++us):=((hvl.drop off).take _).append hl
          obtain⟨h1,h2,h3⟩:=Wu (W0:=W0) hdr e i.size (c+m) (grownCap w (c+m) c e) hTe (Builtin.zeroCells z.cells (grownCap w (c+m) c e-(c+m))).toList (Aa.ext hde _ _ hnew) (by grind) (by
           simp only[Array.length_toList,Jd,hzsz,lAp,hol,hlen]
           rw[←Nat.add_mul,←Nat.add_mul];grind) hg hgm
          refine⟨_,_,_,?_,h1,h2,hde.trans h3⟩;rw[hrun];congr 3;apply Array.ext';simp
       ·cases h
def S0 (P:Program)(t:TypeId)(i:Nat):Option (Nat×Nat):=
 match P.underlying t with
 |some (.array _ e)=>match P.info? e with
  |some ie=>some (i*ie.size,ie.size)|none=>none
 |some (.struct fields)=>match fields.toList.mapM (λf=>(P.info? f.type).map λi=>(f.offset,i.size))with
  |some places=>places[i]?|none=>none
 |_=>none
theorem A7x {P:Program}{w:World}{bs:List Nat}{H:Hz}{t:TypeId}{zs:List AVal}(hz:Ee P t=some zs){ps:Array (Nat×Value)}{qs:List (Nat×Nat×AVal)}{r:List AVal}
 (hp:∀(j:Nat) (p:Nat×Value),ps.toList[j]?=some p→∃q:Nat×Nat×AVal,qs[j]?=some q∧S0 P t p.1=some (q.1,q.2.1)∧Rep F bs H w q.2.2 p.2) (hn:qs.length=ps.toList.length)
 (hkind:(∃fs,P.underlying t=some (.struct fs)∧(fs.toList.mapM<|λf=>(P.info? f.type).map λi=>(f.offset,i.size)).isSome=true)∨(∃n e,P.underlying t=some (.array n e)∧(P.info? e).isSome=true))
 (h:Uk zs qs=some r):∃cv,(Instr.build t ps).run P w= .ok cv w∧Rep F bs H w (.agg r) cv:=by
 unfold Ee at hz;split at hz
 ·rename_i it hit;split at hz
  ·rename_i z hzz;have hl:Aa F bs H w zs z.cells.toList:=Jk (λv _ a ha=>Rep.const 3 v a ha) hz;have fin:∀place:Nat→Option (Nat×Nat),(∀i,place i=S0 P t i)→(∀cells,Instr.fill place z.cells ps.toList=some cells→P.built t ps.toList=some cells)→
    ∃cv,(Instr.build t ps).run P w= .ok cv w∧Rep F bs H w (.agg r) cv:=by
    intro place hpl hb;obtain⟨cells,hf,hr⟩:=A0l (place:=place) (cells:=z.cells) hl (λj p hj=>by grind) hn h;refine⟨.agg cells,run_build w t ps cells<|hb cells hf,?_⟩;grind[Rep]
   rcases hkind with⟨fs,hu,hm⟩|⟨n,e,hu,hm⟩;·obtain⟨places,hpl⟩:=Option.isSome_iff_exists.1 hm;simp_all[S0,Program.built]
   ·obtain⟨ie,hie⟩:=Option.isSome_iff_exists.1 hm;simp_all[S0,Program.built]
  ·cases hz
 ·cases hz
def Jm (zs:List AVal)(n:Nat):List AVal:=(List.range n).map λj=>zs.getD (j%zs.length) .nilIf
theorem Aa.of_get {bs:List Nat}{H:Hz}{w:World}:∀{az:List AVal}{vs:List Value},vs.length=az.length→(∀(j:Nat) (a:AVal) (v:Value),az[j]?=some a→vs[j]?=some v→Rep F bs H w a v)→Aa F bs H w az vs
 | [],vs,hl,_=>by simp only[Aa];exact List.eq_nil_of_length_eq_zero hl|a::az,[],hl,_=>by simp at hl|a::az,v::vs,hl,h=>by simp only[Aa];exact⟨v,vs,Z,h 0 a v Z Z,Aa.of_get (by simpa using hl)<|λj a v h1 h2=>h (j+1) a v h1 h2⟩
theorem A12 {bs:List Nat}{H:Hz}{w:World}{zs:List AVal}{z:Array Value}(hl:Aa F bs H w zs z.toList)(hz:0<z.size)(n:Nat):Aa F bs H w (Jm zs n) ((Array.range n).map (z[· %z.size]!)).toList:=by
 have hlen:=hl.length;have hlen':z.size=zs.length:=Y;refine Aa.of_get (by simp[Jm])<|λj a v ha hv=>?_;simp only[Jm,List.getElem?_map]at ha;simp only[Array.toList_map,Array.toList_range,List.getElem?_map]at hv;by_cases hj:j<n
 ·rw[List.getElem?_range hj]at ha hv;simp only[Option.map_some,iS]at ha hv;subst ha;subst hv;have hm:j%z.size<z.size:=Nat.mod_lt _ hz;have hm':j%zs.length<zs.length:=by grind
  rw[getElem!_pos z _ hm];have hget:zs[j%zs.length]?=some (zs.getD (j%zs.length) .nilIf):=by grind
  obtain⟨u,hu,hr⟩:=hl.get hget;grind
 grind
theorem Ye (off:Nat):∀(l:List<|Value×Nat) (c:Array Value),(l.foldl (λcs x=>cs.setIfInBounds (off+x.2) x.1) c).size=c.size
 | [],c=>rfl|x::l,c=>by rw[List.foldl_cons,Ye off l];simp
theorem Yw (place:Nat→Option (Nat×Nat)):∀(ps:List<|Nat×Value) (c c':Array Value),Instr.fill place c ps=some c'→c'.size=c.size
 | [],c,c',h=>by grind[Instr.fill]
 |(j,v)::ps,c,c',h=>by
  simp only[Instr.fill]at h;split at h;·cases h
  ·split at h;·cases h
   ·rw[Yw place ps _ _ h,←Array.foldl_toList];exact Ye _ _ _
theorem A4y {P:Program}{W0 w:World}{bs:List Nat}{H:Hz}(hh:Ad W0 F bs H w){t e:TypeId}{k by':Nat}(ht:Gg P t=some (e,k,by')){zs:List AVal}(hz:Ee P e=some zs){len:Nat}(hlen:len*k≤16777216){ps:Array (Nat×Value)}{qs:List (Nat×Nat×AVal)}{r:List AVal}
 (hp:∀(j:Nat) (p:Nat×Value),ps.toList[j]?=some p→∃q:Nat×Nat×AVal,qs[j]?=some q∧(p.1*k,k)=(q.1,q.2.1)∧Rep F bs H w q.2.2 p.2) (hn:qs.length=ps.toList.length)
 (h:Uk (Jm zs<|len*k) qs=some r):
 ∃cv w' bs',(Instr.buildSlice t len ps).run P w= .ok cv w'∧Rep F bs' (H++[.cells e r false]) w' (.hsl k H.length 0 len<|some len) cv∧Ad W0 F bs' (H++[.cells e r false]) w'∧Ext bs H w bs' (H++[.cells e r false]) w':=by
 obtain⟨hu,hk1,i,z,hi,hzz,hisz,hiby,hzsz⟩:=Jz ht;subst hisz;have hsz:(sizeOf e).run P w= .ok i.size w:=A9s;have hl:Aa F bs H w zs z.cells.toList:=by grind[Ee,Jk,Rep.const]
 have hzr:(zeroValue e).run P w= .ok z w:=Ab9;have start:∃z0:Array Value,((if len*i.size=0 then pure #[]else do pure (←zeroValue e).cells:Sem<|Array Value).run P w= .ok z0 w)∧Aa F bs H w (Jm zs<|len*i.size) ((Array.range<|len*i.size).map (z0[· %z0.size]!)).toList:=by
  by_cases h0:len*i.size=0;·simp_all[Jm,Aa]
  ·exact⟨z.cells,by simp[h0,hzr],A12 hl Y _⟩
 obtain⟨z0,hz0,hrow⟩:=start;obtain⟨cells',hf,hr⟩:=A0l (place:=λj=>some (j*i.size,i.size)) (cells:=(Array.range<|len*i.size).map (z0[· %z0.size]!)) hrow (λj p hj=>by grind) hn h;obtain⟨h1,h2,h3⟩:=P2 hh e hr;rw[Array.toArray_toList]at h1 h2 h3;have hrl:cells'.size=len*i.size:=by rw[Yw _ _ _ _ hf];simp
 refine⟨.slice (some ⟨w.heap.size,0,none⟩) len len,w.alloc<|.cells cells' e,_,?_,?_,h2,h3⟩;·simp only[Instr.buildSlice,sRb,A7 w hu,rAo,hsz];rw[if_neg Y];by_cases h0:len*i.size=0;all_goals simp_all[newRow]
 ·simp only[Rep,Ce,List.getElem?_concat_length];have:=hr.length;refine⟨⟨_,len,Nat.le_refl _,Z⟩,by grind,λ_=>⟨w.heap.size,len,A52,rfl,Nat.le_refl _,λc' h=>by injection h,Ax⟩⟩
theorem A83 {P:Program}{W0 w:World}{bs:List Nat}{H:Hz}(hh:Ad W0 F bs H w){t:TypeId}(hu:P.underlying t=some .string){s:Bz}:
 ∃cv w' bs',(Instr.range t<|.string ⟨s.toArray⟩).run P w= .ok cv w'∧Rep F bs' (H++[.iter s 0]) w' (.ptr H.length 0) cv∧Ad W0 F bs' (H++[.iter s 0]) w'∧Ext bs H w bs' (H++[.iter s 0]) w':=by
 have he:=Ext.alloc hh.len (λb hb=>(hh.low b hb).2) (.stringIter ⟨s.toArray⟩ 0)<|.iter s 0;refine⟨.pointer<|some ⟨w.heap.size,0,none⟩,w.alloc<|.stringIter ⟨s.toArray⟩ 0,_,by simp[Instr.range,A7 w hu],?_,hh.alloc _ _<|heap_alloc_new w _,he⟩;simp only[Rep,Ey,List.getElem?_concat_length];exact⟨⟨_,Z⟩,w.heap.size,A52,Z⟩
def K3 (s:Bz)(pos:Nat):Nat×Nat:=Utf8.decode ⟨s.toArray⟩ pos
def Wp (H:Hz):AVal→Option (AVal×Hz)
 |.ptr id off=>cond (Nat.beq off 0) (match H[id]? with
  |some (.iter s pos)=>some (cond (Nat.blt pos s.length)
   (.tup [.bool true,.int .i64 (pos:Nat),.int .i32 ((K3 s pos).1:Nat)],H.set id<|.iter s<|pos+(K3 s pos).2)
   (.tup [.bool false],H))
  |_=>none) none
 |_=>none
theorem R3 {B:Nat}(w:World){b:Nat}(o:Obj)(h:B≤b):Below B w {w with heap:=w.heap.setIfInBounds b o}:=⟨rfl,rfl,rfl,Ax,λk hk=>by grind⟩
theorem Ac4 {P:Program}{W0 w:World}{bs:List Nat}{H H':Hz}(hh:Ad W0 F bs H w){T:TypeId}{p v:AVal}{cp:Value}(hp:Rep F bs H w p cp)(h:Wp H p=some (v,H')):
 ∃cv w',(Instr.next cp true T).run P w= .ok cv w'∧Rep F bs H' w' v cv∧Ad W0 F bs H' w'∧Ext bs H w bs H' w':=by
 cases p<;>simp only[Wp]at h<;>try (cases h;done)
 case ptr id off=>
  cases h0:Nat.beq off 0 with
  |false=>rw[h0]at h;cases h
  |true=>
   have:=nBq h0;subst this;rw[h0,cond_true]at h;simp only[Rep]at hp;obtain⟨_,hp⟩:=hp;unfold Ey at hp;split at h
   ·rename_i s pos ho;rw[ho]at hp;obtain⟨b,hb,rfl⟩:=hp;have hobj:=hh.obj id _ b ho hb;simp only[Ik]at hobj;have hlow:=hh.low b<|mGe hb;have hsz:(ByteArray.mk s.toArray).size=s.length:=A4d;have hget:(getObj b).run P w= .ok (.stringIter ⟨s.toArray⟩ pos) w:=by simp[getObj,Sem.run,hobj]
    simp only[iS]at h;cases hlt:Nat.blt pos s.length with
    |false=>
     rw[hlt,cond_false]at h;simp only[iP]at h;obtain⟨rfl,rfl⟩:=h;have hn:¬pos<s.length:=λhc=>by grind[Nat.blt,Nat.ble_eq_true_of_le]
     refine⟨.tuple #[.bool false],w,?_,?_,hh,Ext.refl _ _ _⟩;·simp only[Instr.next,sRb,hget,rAo,hsz,hn,if_false];rfl
     ·grind[Rep,Aa]
    |true=>
     rw[hlt,cond_true]at h;simp only[iP]at h;obtain⟨rfl,rfl⟩:=h;have hn:pos<s.length:=by simp_all
     have hset:(setObj b<|.stringIter ⟨s.toArray⟩<|pos+(K3 s pos).2).run P w= .ok () {w with heap:=w.heap.setIfInBounds b (.stringIter ⟨s.toArray⟩<|pos+(K3 s pos).2)}:=by simp[setObj,Sem.run,hobj]
     have hoe:Bd bs bs w {w with heap:=w.heap.setIfInBounds b (.stringIter ⟨s.toArray⟩<|pos+(K3 s pos).2)} id (.iter s pos) (.iter s<|pos+(K3 s pos).2):=.inr ⟨s,_,Z,Z⟩;have hother:∀k,k≠b→(w.heap.setIfInBounds b<|Obj.stringIter ⟨s.toArray⟩<|pos+(K3 s pos).2)[k]?=w.heap[k]?:=λk hk=>by grind
     have hext:=Ext.upd (w':={w with heap:=w.heap.setIfInBounds b (.stringIter ⟨s.toArray⟩<|pos+(K3 s pos).2)}) hh.nodup ho hb Ax hother hoe;refine⟨.tuple #[.bool true,.int .i64 (pos:Nat),.int .i32 ((K3 s pos).1:Nat)],_,?_,?_,Ad.upd hh ho hb (R3 w _ hlow.1) Ax hother hoe ?_,hext⟩;·simp only[Instr.next,sRb,hget,rAo,hsz,hn,if_true];have:Utf8.decode (ByteArray.mk s.toArray) pos=((K3 s pos).1,(K3 s pos).2):=rfl;rw[this];simp only[hset,rAo];rfl
     ·grind[Rep,Aa]
     ·grind[Ik]
   ·cases h
def bytesOf :List AVal→Option Bz
 | []=>some []
 |.int .u8 n::r=>match bytesOf r with
  |some l=>some (UInt8.ofNat n.toNat::l)|none=>none
 |_::_=>none
theorem Qx {bs:List Nat}{H:Hz}{w:World}:∀{az:List AVal}{vs:List Value}{l:Bz},Aa F bs H w az vs→bytesOf az=some l→∃ns:List Int,vs=ns.map (Value.int .u8)∧l=ns.map λn=>UInt8.ofNat n.toNat
 | [],_,_,h,hb=>by simp_all[Aa,bytesOf]
 |a::az,_,l,h,hb=>by
  simp only[Aa]at h;obtain⟨u,us,rfl,h1,h2⟩:=h;cases a;case int k n=>
   cases k;case u8=>
    simp only[bytesOf]at hb;cases hr:bytesOf az with
    |none=>rw[hr]at hb;cases hb
    |some l'=>rw[hr]at hb;injection hb with hb;subst hb;obtain⟨ns,rfl,rfl⟩:=Qx h2 hr;simp only[Rep]at h1;subst h1;exact⟨n::ns,Z,Z⟩
   all_goals(simp[bytesOf]at hb)
  all_goals(simp[bytesOf]at hb)
def A8n (H:Hz)(y:AVal):Option AVal:=
 match D6 1 H y with
 |some (ys,_)=>match bytesOf ys with
  |some l=>some (.str l)|none=>none
 |none=>none
theorem ab2s_ok {P:Program}{W0 w:World}{bs:List Nat}{H:Hz}(hh:Ad W0 F bs H w){src dst e:TypeId}(hs:P.underlying src=some (.slice e))(hd:P.underlying dst=some .string)(he:P.underlying e=some (.int .u8)){y v:AVal}{cy:Value}(hy:Rep F bs H w y cy)(h:A8n H y=some v):
 ∃cv,(convert src dst cy).run P w= .ok cv w∧Rep F bs H w v cv:=by
 unfold A8n at h;split at h
 ·rename_i ys m hyc;split at h
  ·rename_i l hl;injection h with h;subst h;obtain⟨a,c,us,rfl,hrl,hlen,hnone,hmem⟩:=Tt hh hy hyc;obtain⟨ns,rfl,rfl⟩:=Qx hrl hl;have hconv:∀r,(Conv.bytesToString<|.slice a m c).run P w= .ok r w→(convert src dst (.slice a m c)).run P w= .ok r w:=by simp_all[convert,A7]
   cases a with|none=>have:=hnone Z;subst this;have:ns=[]:=List.eq_nil_of_length_eq_zero (by grind);subst this;exact⟨.string .empty,hconv _ (by simp[Conv.bytesToString]),by simp only[Rep];rfl⟩|some ad=>have hm:=hmem ad Z;have hll:(ns.map<|Value.int .u8).length=m:=Y;have hld:=run_loadCells_list (P:=P) w ad (ns.map<|Value.int .u8) hm;rw[hll]at hld;have:=run_bytesToString (P:=P) w ad m c ns hld;rw[foldl_push_bytes]at this;refine⟨_,hconv _ this,?_⟩;simp only[Rep];have h0:ByteArray.empty.data= #[]:=rfl;rw[h0,Array.empty_append]
  ·cases h
 ·cases h
theorem A43 (w:World)(c:Array Value)(e:TypeId)(n:Nat):(w.alloc<|.cells c e).freeze ⟨w.heap.size,n,none⟩ 1=w.alloc (.cells c e (n,n+1)):=by unfold World.freeze World.alloc;simp only[Nat.one_ne_zero,if_false];congr 1;grind
theorem as2b_ok {P:Program}{W0 w:World}{bs:List Nat}{H:Hz}(hh:Ad W0 F bs H w){src dst e:TypeId}(hs:P.underlying src=some .string)(hd:P.underlying dst=some (.slice e))(he:P.underlying e=some (.int .u8))(s:Bz):
 ∃cv w' bs',(convert src dst (.string ⟨s.toArray⟩)).run P w= .ok cv w'∧Rep F bs' (H++[.cells e (s.map λb=>.int .u8 (b.toNat:Nat)) false]) w' (.hsl 1 H.length 0 s.length none) cv∧
  Ad W0 F bs' (H++[.cells e (s.map λb=>.int .u8 (b.toNat:Nat)) false]) w'∧Ext bs H w bs' (H++[.cells e (s.map λb=>.int .u8 (b.toNat:Nat)) false]) w':=by
 obtain⟨hdr,hde⟩:=hh.drew;have hsz:(ByteArray.mk s.toArray).size=s.length:=A4d;generalize hcap:(Question.appendCap s.length 0 e).cut (w.tape w.drawn<|.appendCap s.length 0 e)=cap;have hle:s.length≤cap:=by grind[Question.cut]
 let vs:List Value:=s.map λb=>.int .u8 b.toNat;let rest:List Value:=List.replicate (cap-s.length)<|.int .u8 0;have harr:((ByteArray.mk s.toArray).data.map (λb=>Value.int .u8 b.toNat)++Array.replicate (cap-s.length) (.int .u8 0))=(vs++rest).toArray:=by grind
 have hl:∀{bs:List Nat}{H:Hz}{w:World},Aa F bs H w (s.map λb=>AVal.int .u8 (b.toNat:Nat)) vs:=by grind[Aa.of_get,Rep]
 have hext:=Ext.alloc hdr.len (λb hb=>(hdr.low b hb).2) (.cells (vs++rest).toArray e ((vs++rest).length,(vs++rest).length+1))<|.cells e (s.map λb=>AVal.int .u8 (b.toNat:Nat)) false;refine⟨.slice (some ⟨w.heap.size,0,none⟩) s.length cap,w.drew.alloc<|.cells (vs++rest).toArray e ((vs++rest).length,(vs++rest).length+1),bs++[w.heap.size],?_,?_,?_,hde.trans hext⟩
 ·have hfr:=A43 w.drew (vs++rest).toArray e (vs++rest).length;have hshape:(w.drew.alloc<|.cells (vs++rest).toArray e).shape? w.heap.size=some (e,(vs++rest).length):=by unfold World.shape?;have:(w.drew.alloc<|.cells (vs++rest).toArray e).heap[w.heap.size]?=some (.cells (vs++rest).toArray e):=heap_alloc_new w.drew _;grind
  simp only[convert,sRb,A7 w hs,A7 w hd,rAo,A7 w he,Conv.stringToBytes,run_choose,Question.forced,bFt,if_false,hsz,hcap,newRow,run_newObj,harr];simp only[markStringish,sRb,run_shape];have h1:({{w with drawn:=w.drawn+1}with heap:=w.heap.push (Obj.cells (vs++rest).toArray e)}:World)=w.drew.alloc (.cells (vs++rest).toArray e):=Z;simp_all
 ·simp only[Rep,Ce,List.getElem?_concat_length];exact⟨⟨_,cap,hle,Z⟩,Ax,λ_=>⟨w.heap.size,cap,A52,Z,hle,Ax,Ax⟩⟩
 ·exact hdr.alloc _ _ ⟨vs,rest,_,heap_alloc_new w.drew _,hl,λj hj hc=>by grind⟩
inductive EP where
 |b|i|s|nil|cons (off n:Nat) (agg:Bool) (f r:EP)
def aeq :EP→AVal→AVal→Option Bool
 |.b,.bool a,.bool c=>some (a==c)|.i,.int k a,.int j c=>cond (Wg k j) (some<|a==c) none|.s,.str a,.str c=>some (a==c)|.nil,.agg _,.agg _=>some true
 |.cons off n g f r,x,y=>match J0 n g off x with
  |some a=>match J0 n g off y with
   |some c=>match aeq f a c with
    |some b=>match aeq r x y with
     |some c=>some (b&&c)|none=>none
    |none=>none
   |none=>none
  |none=>none
 |_,_,_=>none
def Ue (k:Nat)(g:Bool)(f:EP):Nat→Nat→EP
 |_,0=>.nil|i,m+1=>.cons (i*k) k g f<|Ue k g f (i+1) m
mutual
def W2 (P : Program) : Nat → TypeId → Option EP
  | 0, _ => none
  | d + 1, t => match P.underlying t with
    | some .bool => some .b
    | some (.int _) => some .i
    | some .string => some .s
    | some (.struct fields) => cond (P.stoodInHeld t) none (Gt P d fields.toList)
    | some (.array n e) => match On P e with
      | some (k, g) => match W2 P d e with
        | some f => some (Ue k g f 0 n)
        | none => none
      | none => none
    | _ => none
def Gt (P : Program) : Nat → List Field → Option EP
  | 0, _ => none
  | _ + 1, [] => some .nil
  | d + 1, f :: fs => if f.name = "_" then none else match On P f.type with
    | some (n, g) => match W2 P d f.type with
      | some e => match Gt P d fs with
        | some r => some (.cons f.offset n g e r)
        | none => none
      | none => none
    | none => none
end
section
variable {P : Program} {w : World} {bs : List Nat} {H : Hz}
theorem Rb {t:TypeId}{n off:Nat}{g:Bool}(ht:On P t=some (n,g)){xs:List AVal}{us:List Value}(hx:Aa F bs H w xs us){a:AVal}(h:J0 n g off (.agg xs)=some a):
 ∃ca,(part t us.toArray off).run P w= .ok ca w∧Rep F bs H w a ca:=by
 obtain⟨h1,h2⟩:=R2 w ht;cases g with
 |true=>
  simp only[J0,iS]at h;subst h;refine⟨.agg<|us.toArray.extract off<|off+n,?_,?_⟩;·simp[part,h1,h2]
  ·simp only[Rep];refine⟨(us.drop off).take n,?_,(hx.drop off).take n⟩;grind
 |false=>
  simp only[J0]at h;split at h
  ·rename_i c rest hc;injection h with h;subst h;have hget:xs[off]?=some c:=by have:=congrArg (λl=>l[0]?) hc;grind
   obtain⟨u,hu,hr⟩:=hx.get hget;simp_all[part]
  ·cases h
def EP.chain :EP→Bool
 |.nil=>true|.cons _ _ _ _ _=>true|_=>false
theorem Ol {d:Nat}{fs:List Field}{e:EP}(h:Gt P d fs=some e):e.chain=true:=by
 cases d with
 |zero=>simp only[Gt]at h;cases h
 |succ d=>
  cases fs with
  |nil=>simp only[Gt]at h;injection h with h;subst h;rfl
  |cons f fs=>
   simp only[Gt]at h;repeat' (split at h)
   all_goals first
    |(cases h;done)
    |(injection h with h;subst h;rfl)
theorem Wq {n off:Nat}{g:Bool}{x a:AVal}(h:J0 n g off x=some a):∃xs,x= .agg xs:=by cases x<;>simp only[J0,reduceCtorEq]at h;grind
theorem A18 {e:EP}(he:e.chain=true){x y:AVal}{r:Bool}(h:aeq e x y=some r):∃xs ys,x= .agg xs∧y= .agg ys:=by
 cases e with
 |nil=>cases x<;>cases y<;>simp only[aeq,reduceCtorEq]at h;exact⟨_,_,rfl,rfl⟩
 |cons off n g f r1=>
  simp only[aeq]at h;split at h;·grind[Wq]
  ·cases h
 |_=>cases he
theorem Uc {k:Nat}{g:Bool}{f:EP}:∀{i m:Nat},(Ue k g f i m).chain=true
 |_,0=>rfl|_,_+1=>rfl
theorem W7 {d:Nat}{e:TypeId}{n:Nat}{g:Bool}{f:EP}(ht:On P e=some (n,g))(hrec:∀(x y:AVal) (cx cy:Value) (r:Bool),Rep F bs H w x cx→Rep F bs H w y cy→aeq f x y=some r→(Op.equalIn d e cx cy).run P w= .ok r w)
 {xs ys:List AVal}{us vs:List Value} (hx:Aa F bs H w xs us) (hy:Aa F bs H w ys vs):∀(m i:Nat) (r:Bool),aeq (Ue n g f i m) (.agg xs) (.agg ys)=some r→(Op.eqItems d e n us.toArray vs.toArray<|List.range' i m).run P w= .ok r w
 |0,i,r,h=>by simp_all[Ue,aeq,Op.eqItems]
 |m+1,i,r,he=>by
  simp only[Ue,aeq]at he;split at he
  ·rename_i a ha;split at he
   ·rename_i c hc;obtain⟨ca,p1,p2⟩:=Rb ht hx ha;obtain⟨cc,q1,q2⟩:=Rb ht hy hc;split at he
    ·rename_i b hb;split at he;·rename_i b2 hb2;injection he with he;subst he;simp only[List.range'_succ,Op.eqItems,sRb,p1,q1,rAo,hrec a c ca cc b p2 q2 hb];cases b with|true=>simp only[Bool.not_true,bFt,if_false];exact W7 ht hrec hx hy m (i+1) _ hb2|false=>simp
     ·cases he
    ·cases he
   ·cases he
  ·cases he
mutual
theorem Adr : ∀ (d : Nat) (t : TypeId) (e : EP), W2 P d t = some e → ∀ (k : Nat) (x y : AVal) (cx cy : Value) (r : Bool), Rep F bs H w x cx → Rep F bs H w y cy → aeq e x y = some r → (Op.equalIn (d + k) t cx cy).run P w = .ok r w
  | 0, _, _, h, _, _, _, _, _, _, _, _, _ => by grind [W2]
  | d + 1, t, e, h, k, x, y, cx, cy, r, hx, hy, he => by
    simp only [W2] at h
    rw [show d + 1 + k = (d + k) + 1 by omega]
    split at h
    · rename_i hu
      injection h with h; subst h
      cases x <;> cases y <;> simp only [aeq, iS, reduceCtorEq] at he
      grind [Rep, run_equalIn_bool']
    · rename_i k0 hu
      injection h with h; subst h
      cases x <;> cases y <;> simp only [aeq, reduceCtorEq] at he
      rename_i k1 a k2 c
      cases hk : Wg k1 k2 with
      | false => rw [hk] at he; cases he
      | true =>
        rw [hk, cond_true] at he
        injection he with he; subst he
        have := A05 hk; subst this
        simp only [Rep] at hx hy
        subst hx; subst hy
        exact run_equalIn_int w (d + k) t _ _ _ _ hu
    · rename_i hu
      injection h with h; subst h
      cases x <;> cases y <;> simp only [aeq, iS, reduceCtorEq] at he
      grind [Rep, run_equalIn_string, ByteArray.toList_mk]
    · rename_i fields hu
      cases hst : P.stoodInHeld t with
      | true => rw [hst] at h; cases h
      | false =>
        rw [hst, cond_false] at h
        have hfl : P.fieldsOf t = fields := by simp [Program.fieldsOf, hu]
        obtain ⟨xs, ys, rfl, rfl⟩ := A18 (Ol h) he
        simp only [Rep] at hx hy
        obtain ⟨us, rfl, hx⟩ := hx
        obtain ⟨vs, rfl, hy⟩ := hy
        rw [run_equalIn_agg w (d + k) t us.toArray vs.toArray (by grind) hst, hfl]
        exact Ace d fields.toList e h k xs ys us vs r hx hy he
    · rename_i n e' hu
      split at h
      · rename_i k' g ht
        split at h
        · rename_i f hf
          injection h with h; subst h
          obtain ⟨xs, ys, rfl, rfl⟩ := A18 Uc he
          simp only [Rep] at hx hy
          obtain ⟨us, rfl, hx⟩ := hx
          obtain ⟨vs, rfl, hy⟩ := hy
          obtain ⟨ie, hie, hsz⟩ : ∃ i, P.info? e' = some i ∧ i.size = k' := by
            grind [On]
          have hco : P.cellsOf e' = k' := by grind [Program.cellsOf]
          rw [run_equalIn_array w (d + k) us.toArray vs.toArray hu hie, hco, List.range_eq_range']
          exact W7 ht (fun x y cx cy r h1 h2 h3 => Adr d e' f hf k x y cx cy r h1 h2 h3) hx hy n 0 r he
        · cases h
      · cases h
    · cases h
theorem Ace : ∀ (d : Nat) (fs : List Field) (e : EP), Gt P d fs = some e → ∀ (k : Nat) (xs ys : List AVal) (us vs : List Value) (r : Bool), Aa F bs H w xs us → Aa F bs H w ys vs → aeq e (.agg xs) (.agg ys) = some r → (Op.eqFields (d + k) us.toArray vs.toArray fs).run P w = .ok r w
  | 0, _, _, h, _, _, _, _, _, _, _, _, _ => by grind [Gt]
  | d + 1, [], e, h, k, xs, ys, us, vs, r, hx, hy, he => by
    simp only [Gt] at h
    injection h with h; subst h
    simp only [aeq, iS] at he
    subst he
    rfl
  | d + 1, f :: fs, e, h, k, xs, ys, us, vs, r, hx, hy, he => by
    simp only [Gt] at h
    split at h
    · cases h
    · rename_i hn
      split at h
      · rename_i n g ht
        split at h
        · rename_i e1 h1
          split at h
          · rename_i r1 h2
            injection h with h; subst h
            simp only [aeq] at he
            split at he
            · rename_i a ha
              split at he
              · rename_i c hc
                obtain ⟨ca, p1, p2⟩ := Rb ht hx ha
                obtain ⟨cc, q1, q2⟩ := Rb ht hy hc
                have hrec : ∀ b, aeq e1 a c = some b → (Op.equalIn (d + 1 + k) f.type ca cc).run P w = .ok b w := fun b hb => by
                  rw [show d + 1 + k = d + (1 + k) by omega]
                  exact Adr d f.type e1 h1 (1 + k) a c ca cc b p2 q2 hb
                have hf : f.name ≠ "_" := hn
                simp only [Op.eqFields, if_pos hf, sRb, p1, q1, rAo]
                split at he
                · rename_i b hb
                  split at he
                  · rename_i b2 hb2
                    injection he with he; subst he
                    cases b with
                    | true =>
                      rw [hrec _ hb]
                      simp only [rAo, Bool.not_true, bFt, if_false]
                      rw [show d + 1 + k = d + (1 + k) by omega]
                      exact Ace d fs r1 h2 (1 + k) xs ys us vs _ hx hy hb2
                    | false =>
                      rw [hrec _ hb]
                      simp
                  · cases he
                · cases he
              · cases he
            · cases he
          · cases h
        · cases h
      · cases h
end
def isSA (P:Program)(t:TypeId):Bool:=match P.underlying t with|some (.struct _)=>true|some (.array _ _)=>true|_=>false
theorem A5e {d:Nat}{t:TypeId}{e:EP}(hu:isSA P t=true)(h:W2 P d t=some e):e.chain=true:=by
 cases d with
 |zero=>simp only[W2]at h;cases h
 |succ d=>
  unfold isSA at hu;split at hu
  ·rename_i fs hu';simp only[W2,hu']at h;cases hst:P.stoodInHeld t with
   |true=>rw[hst]at h;cases h
   |false=>rw[hst,cond_false]at h;exact Ol h
  ·grind[W2,Uc]
  ·cases hu
theorem eqs_ok {op:BinOp}{t:TypeId}{e:EP}(hu:isSA P t=true)(hgd:P.eqGuardType P.depth t=false)(h:W2 P 100 t=some e){neg:Bool}(hop:(op= .eql∧neg=false)∨(op= .neq∧neg=true))
 {x y:AVal}{cx cy:Value}{ox oy:Operand}{r:Bool} (hx:Rep F bs H w x cx) (hy:Rep F bs H w y cy) (he:aeq e x y=some r):
 (do eqGuard op t ox oy cx cy;binOp op t cx cy:Sem Value).run P w= .ok (.bool<|cond neg (not r) r) w:=by
 obtain⟨xs,ys,rfl,rfl⟩:=A18 (A5e hu h) he;have hx':=hx;have hy':=hy;simp only[Rep]at hx' hy';obtain⟨us,rfl,_⟩:=hx';obtain⟨vs,rfl,_⟩:=hy';have h1:=Adr 100 t e h 9900 _ _ _ _ r hx hy he;grind[Sem.run_bind,run_eqGuard_agg,Result.andThen_ok,run_eql_struct,run_neq_struct]
theorem Yr {t:TypeId}{n off:Nat}{g:Bool}(ht:On P t=some (n,g)){x a:AVal}{cx:Value}(hx:Rep F bs H w x cx)(h:J0 n g off x=some a):
 ∃us ca,cx= .agg us∧(part t us off).run P w= .ok ca w∧Rep F bs H w a ca:=by
 grind[Wq,Rep,Rb]
end
def A09 (H:Hz)(k id off len:Nat)(cap:Option Nat)(lo hi:Option Int):Option AV:=
 cond (Nx H id) (match lo with
  |none=>some (.hsl k id off (hi.getD (len:Nat)).toNat cap,[(0,hi.getD (len:Nat)),(hi.getD (len:Nat),(len:Nat))])
  |some l=>match cap with
   |some c=>some (.hsl k id (cond (Nat.beq c l.toNat) off (off+l.toNat*k)) ((hi.getD (len:Nat)).toNat-l.toNat) (some (c-l.toNat)),[(0,l),(l,hi.getD (len:Nat)),(hi.getD (len:Nat),(len:Nat))])|none=>none) (match lo with
  |none=>cond (Pn H id (len*k)&&Nat.beq off 0) (some (.hsl k id 0 (hi.getD (len:Nat)).toNat none,[(0,hi.getD (len:Nat)),(hi.getD (len:Nat),(len:Nat))])) none|some l=>cond (Pn H id (len*k)&&Nat.beq off 0&&Nat.ble 1 k) (some (.hsl k id (l.toNat*k) ((hi.getD (len:Nat)).toNat-l.toNat) none,[(1,l),(l,hi.getD (len:Nat)),(hi.getD (len:Nat),(len:Nat))])) none)
theorem A5k {P:Program}{w:World}{bs:List Nat}{H:Hz}{k id off len:Nat}{cap:Option Nat}{clo chi:Option Value}{lo hi:Option Int}{t e:TypeId}{v:AVal}{cx:Value}{side:List (Int×Int)}
 (ht:Ek P t=some (e,k)) (hx:Rep F bs H w (.hsl k id off len cap) cx)
 (hlo:(lo=none∧clo=none)∨∃k n,lo=some n∧clo=some (.int k n)) (hhi:(hi=none∧chi=none)∨∃k n,hi=some n∧chi=some (.int k n))
 (h:A09 H k id off len cap lo hi=some (v,side)) (hs:Ag side):
 ∃cv,(Instr.sliceAt t cx clo chi none).run P w= .ok cv w∧Rep F bs H w v cv:=by
 obtain⟨hu,hsz⟩:=Gh ht;simp only[Rep]at hx;obtain⟨_,hx⟩:=hx;unfold A09 at h;cases hlv:Nx H id with
 |false=>
  rw[hlv,cond_false]at h;cases lo with
  |some l=>
   simp only at h;cases hgd:(Pn H id (len*k)&&Nat.beq off 0&&Nat.ble 1 k)with
   |false=>rw[hgd]at h;cases h
   |true=>
    rw[hgd,cond_true]at h;simp only[iS,iP]at h;obtain⟨rfl,rfl⟩:=h;obtain⟨h0,h1,h2,_⟩:=hs;simp only[bAt]at hgd;have hoff:=nBq hgd.1.2;have hk1:=Nat.le_of_ble_eq_true hgd.2;subst hoff;have hgg:=hgd.1.1;unfold Pn at hgg;split at hgg
    ·rename_i T cs ho;have hcl:=nBq hgg;unfold Ce at hx;rw[ho]at hx;obtain⟨hle,hx⟩:=hx;obtain⟨b,c,hb,rfl,hlc,hcap,hop⟩:=hx<|λ_=>⟨rfl,hcl.symm⟩;have hr:=D8 (P:=P) (w:=w) true len c hlc hlo hhi (show 0≤(some l).getD 0 by grind) h1 h2;refine⟨.slice (if c=((some l:Option Int).getD 0).toNat then some ⟨b,0,none⟩else(some (⟨b,0,none⟩:Addr)).map (·.add (((some l:Option Int).getD 0).toNat*k))) ((hi.getD (len:Nat)).toNat-((some l:Option Int).getD 0).toNat)<|c-((some l:Option Int).getD 0).toNat,?_,?_⟩;·simp_all[Instr.sliceAt,Instr.slice,A7]
     ·have hhl:(hi.getD (len:Nat)).toNat≤len:=by omega
      have hll:l.toNat≤(hi.getD (len:Nat)).toNat:=Int.toNat_le_toNat h1;have hmul:(hi.getD (len:Nat)).toNat*k≤len*k:=Nat.mul_le_mul_right k hhl;have hsplit:((hi.getD (len:Nat)).toNat-l.toNat)*k+l.toNat*k=(hi.getD (len:Nat)).toNat*k:=by rw[←Nat.add_mul,Nat.sub_add_cancel hll]
      have hlc2:(hi.getD (len:Nat)).toNat-l.toNat≤c-l.toNat:=Nat.sub_le_sub_right (Nat.le_trans hhl hlc) _;have hpos:0<l.toNat*k:=Nat.mul_pos Y hk1<;>grind[Rep,Ce]
    ·cases hgg
  |none=>
   simp only at h;cases hgd:(Pn H id (len*k)&&Nat.beq off 0)with
   |false=>rw[hgd]at h;cases h
   |true=>
    rw[hgd,cond_true]at h;simp only[iS,iP]at h;obtain⟨rfl,rfl⟩:=h;obtain⟨h1,h2,_⟩:=hs;simp only[bAt]at hgd;have hoff:=nBq hgd.2;subst hoff;have hgg:=hgd.1;unfold Pn at hgg;split at hgg
    ·rename_i T cs ho;have hcl:=nBq hgg;unfold Ce at hx;rw[ho]at hx;obtain⟨hle,hx⟩:=hx;obtain⟨b,c,hb,rfl,hlc,hcap,hop⟩:=hx<|λ_=>⟨rfl,hcl.symm⟩;have hr:=D8 (P:=P) (w:=w) true len c hlc hlo hhi (Int.le_refl 0) h1 h2;refine⟨.slice (if c=((none:Option Int).getD 0).toNat then some ⟨b,0,none⟩else(some (⟨b,0,none⟩:Addr)).map (·.add (((none:Option Int).getD 0).toNat*k))) ((hi.getD (len:Nat)).toNat-((none:Option Int).getD 0).toNat)<|c-((none:Option Int).getD 0).toNat,?_,?_⟩;·simp_all[Instr.sliceAt,Instr.slice,A7]
     ·have hhl:(hi.getD (len:Nat)).toNat≤len:=by omega
      have hmul:(hi.getD (len:Nat)).toNat*k≤len*k:=Nat.mul_le_mul_right k hhl;simp only[Option.getD_none,Int.toNat_zero,Nat.zero_mul,Nat.sub_zero,Option.map_some,Addr.add_at,Nat.add_zero,ite_self];grind[Rep,Ce]
    ·cases hgg
 |true=>
  rw[hlv,cond_true]at h;unfold Nx at hlv;split at hlv
  ·rename_i T cs ho;unfold Ce at hx;rw[ho]at hx;obtain⟨hle,hx⟩:=hx;obtain⟨b,c,hb,rfl,hlc,hcap,_⟩:=hx Ax;have hbd:0≤lo.getD 0∧lo.getD 0≤hi.getD (len:Nat)∧hi.getD (len:Nat)≤(len:Nat):=by
    cases lo with
    |none=>simp only[iS,iP]at h;obtain⟨_,rfl⟩:=h;obtain⟨h1,h2,_⟩:=hs;exact⟨Int.le_refl 0,h1,h2⟩
    |some l=>
     cases cap with
     |none=>cases h
     |some c'=>simp only[iS,iP]at h;obtain⟨_,rfl⟩:=h;obtain⟨h1,h2,h3,_⟩:=hs;exact⟨h1,h2,h3⟩
   have hr:=D8 (P:=P) (w:=w) true len c hlc hlo hhi hbd.1 hbd.2.1 hbd.2.2;refine⟨.slice (if c=(lo.getD 0).toNat then some ⟨b,off,none⟩else(some (⟨b,off,none⟩:Addr)).map (·.add ((lo.getD 0).toNat*k))) ((hi.getD (len:Nat)).toNat-(lo.getD 0).toNat)<|c-(lo.getD 0).toNat,?_,?_⟩;·simp_all[Instr.sliceAt,Instr.slice,A7]
   ·have hhl:(hi.getD (len:Nat)).toNat≤len:=by omega
    cases lo with
    |none=>simp only[iS,iP]at h;obtain⟨rfl,_⟩:=h;simp only[Option.getD_none,Int.toNat_zero,Nat.zero_mul,Nat.sub_zero,Option.map_some,Addr.add_at,Nat.add_zero,ite_self];simp only[Rep,Ce,ho];have hmul:(hi.getD (len:Nat)).toNat*k≤len*k:=Nat.mul_le_mul_right k hhl;exact⟨⟨_,_,Y,Z⟩,Y,λ_=>⟨b,c,hb,Z,Y,hcap,Ax⟩⟩
    |some l=>
     cases cap with
     |none=>cases h
     |some c'=>
      have hcc:=hcap c' Z;subst hcc;simp only[iS,iP]at h;obtain⟨rfl,_⟩:=h;simp only[Option.getD_some,Option.map_some,Addr.add_at]at hbd⊢;have hll:l.toNat≤(hi.getD (len:Nat)).toNat:=Int.toNat_le_toNat hbd.2.1;have hmul:(hi.getD (len:Nat)).toNat*k≤len*k:=Nat.mul_le_mul_right k hhl;have hsplit:((hi.getD (len:Nat)).toNat-l.toNat)*k+l.toNat*k=(hi.getD (len:Nat)).toNat*k:=by rw[←Nat.add_mul,Nat.sub_add_cancel hll]
      have hlc2:(hi.getD (len:Nat)).toNat-l.toNat≤c-l.toNat:=Nat.sub_le_sub_right (Nat.le_trans hhl hlc) _;have hA:off+((hi.getD (len:Nat)).toNat-l.toNat)*k≤cs.length:=Nat.le_trans (Nat.add_le_add_left (Nat.le_trans (Nat.le.intro hsplit) hmul) off) hle;have hB:off+l.toNat*k+((hi.getD (len:Nat)).toNat-l.toNat)*k≤cs.length:=by omega
      simp only[Rep,Ce,ho];cases hc:Nat.beq c l.toNat with|true=>have hcl:=nBq hc;rw[if_pos hcl,cond_true];exact⟨⟨_,_,hlc2,Z⟩,hA,λ_=>⟨b,c-l.toNat,hb,Z,hlc2,λc'' h=>by injection h,Ax⟩⟩|false=>have hcl:=Nat.ne_of_beq_eq_false hc;rw[if_neg hcl,cond_false];exact⟨⟨_,_,hlc2,Z⟩,hB,λ_=>⟨b,c-l.toNat,hb,Z,hlc2,λc'' h=>by injection h,Ax⟩⟩
  ·cases hlv
def Vs (H:Hz)(n k:Nat)(hi:Option Int)(p:AVal):Option AV:=
 match p with
 |.ptr id off=>match H[id]? with
  |some (.cells _ cs false)=>cond (Nat.ble (off+n*k) cs.length) (some (.hsl k id off (hi.getD (n:Nat)).toNat<|some n,[(0,hi.getD (n:Nat)),(hi.getD (n:Nat),(n:Nat))])) none|_=>none
 |_=>none
theorem A4u {P:Program}{w:World}{bs:List Nat}{H:Hz}{n k:Nat}{chi:Option Value}{hi:Option Int}{t:TypeId}{p v:AVal}{cx:Value}{side:List (Int×Int)}
 (ht:P4 P t=some (n,k)) (hx:Rep F bs H w p cx) (hhi:(hi=none∧chi=none)∨∃k n,hi=some n∧chi=some (.int k n))
 (h:Vs H n k hi p=some (v,side)) (hs:Ag side):
 ∃cv,(Instr.sliceAt t cx none chi none).run P w= .ok cv w∧Rep F bs H w v cv:=by
 obtain⟨e,hu,hsz⟩:=Xa ht;cases p<;>simp only[Vs]at h<;>try (cases h;done)
 case ptr id off=>
 simp only[Rep]at hx;obtain⟨_,hx⟩:=hx;unfold Ey at hx;split at h
 ·rename_i T cs ho;rw[ho]at hx;obtain⟨b,hb,rfl⟩:=hx;cases hl:Nat.ble (off+n*k) cs.length with
  |false=>rw[hl]at h;cases h
  |true=>
   rw[hl,cond_true]at h;simp only[iS,iP]at h;obtain⟨rfl,rfl⟩:=h;obtain⟨h1,h2,_⟩:=hs;have hl:=Nat.le_of_ble_eq_true hl;have hr:=D8 (P:=P) (w:=w) (clo:=none) (lo:=none) false n n (Nat.le_refl n) (.inl ⟨Z,Z⟩) hhi (Int.le_refl 0) h1 h2;have hhl:(hi.getD (n:Nat)).toNat≤n:=by omega
   have hmul:(hi.getD (n:Nat)).toNat*k≤n*k:=Nat.mul_le_mul_right k hhl;refine⟨.slice (some ⟨b,off,none⟩) (hi.getD (n:Nat)).toNat n,?_,?_⟩;·simp only[Instr.sliceAt,Instr.sureAddr,sRb,Sem.run_pure,A7 w hu,rAo,hr,hsz,Option.getD_none,Int.toNat_zero,Nat.zero_mul,Nat.sub_zero,Addr.add_at,Nat.add_zero,ite_self]
   ·grind[Rep,Ce]
 ·cases h
theorem A19 {P:Program}{W0 w:World}{bs:List Nat}{H:Hz}(hh:Ad W0 F bs H w){id b off:Nat}{T:TypeId}{cs xs:List AVal}{us:List Value}(ho:H[id]?=some (.cells T cs false))(hb:bs[id]?=some b)
 (hx:Aa F bs H w xs us) (h2:off+xs.length≤cs.length) (h3:xs.all AVal.one=true):
 ∃w',(storeCells ⟨b,off,none⟩ us).run P w= .ok () w'∧Ad W0 F bs (H.set id<|.cells T (spl cs off xs) false) w'∧Ext bs H w bs (H.set id<|.cells T (spl cs off xs) false) w':=by
 obtain⟨vs,rest,fr,hcell,hl,hfr⟩:=hh.obj id _ b ho hb;have hxl:=hx.length;have hvl:=hl.length;have hst:=G0 (P:=P) b off T fr us 0 (vs++rest).toArray w hcell vs.length hfr Y Ax<|hx.one h3;simp only[Nat.add_zero]at hst;have hsp:(vs++rest).toArray.toList.take off++us++(vs++rest).toArray.toList.drop (off+us.length)=(vs.take off++us++vs.drop (off+us.length))++rest:=by grind
 rw[hsp]at hst;have hrow:Aa F bs H w (spl cs off xs) (vs.take off++us++vs.drop (off+us.length)):=by rw[spl,List.append_assoc,hxl];exact(hl.take off).append<|hx.append<|hl.drop _
 have hlen:(spl cs off xs).length=cs.length:=by simp[spl];omega
 have hoe:Bd bs bs w (w.setRow b ((vs.take off++us++vs.drop (off+us.length))++rest).toArray) id (.cells T cs false) (.cells T (spl cs off xs) false):=.inr ⟨T,_,Z,hlen,Z⟩;have hlow:=hh.low b<|mGe hb;have hext:=Ext.upd (w':=w.setRow b ((vs.take off++us++vs.drop (off+us.length))++rest).toArray) hh.nodup ho hb Ax (λk hk=>setRow_other w b k _ hk) hoe;refine⟨_,hst,Ad.upd hh ho hb (Gj w _ hlow.1) Ax (λk hk=>setRow_other w b k _ hk) hoe ?_,hext⟩;refine⟨_,rest,fr,setRow_heap w b _ _ T fr hcell,Aa.ext hext _ _ hrow,λj hj=>hfr j ?_⟩;grind
def A0c (H:Hz)(k:Nat)(zs:List AVal)(p:AVal):Option Hz:=
 match p with
 |.hsl k' id off len _=>match H[id]? with
  |some (.cells T cs false)=>cond (Nat.beq k k') (cond (Nat.beq len 0) (some H)<|cond ((Jm zs<|len*k).all AVal.one) (some<|H.set id<|.cells T (spl cs off<|Jm zs<|len*k) false) none) none|_=>none
 |_=>none
theorem A86 {P:Program}{W0 w:World}{bs:List Nat}{H H':Hz}(hh:Ad W0 F bs H w){t e ty:TypeId}{k by':Nat}(ht:Gg P t=some (e,k,by')){zs:List AVal}(hz:Ee P e=some zs){p:AVal}{cx:Value}
 (hx:Rep F bs H w p cx) (h:A0c H k zs p=some H'):
 ∃w',(Builtin.clear_ #[t] ty #[cx]).run P w= .ok (.tuple #[]) w'∧Ad W0 F bs H' w'∧Ext bs H w bs H' w':=by
 obtain⟨hu,hk1,i,z,hi,hzz,hisz,hiby,hzsz⟩:=Jz ht;subst hisz;have hl:Aa F bs H w zs z.cells.toList:=by grind[Ee,Jk,Rep.const]
 have hzr:(zeroValue e).run P w= .ok z w:=Ab9;cases p<;>simp only[A0c]at h<;>try (cases h;done)
 case hsl k' id off len cap=>
 simp only[Rep]at hx;obtain⟨_,hx⟩:=hx;unfold Ce at hx;split at h
 ·rename_i T cs ho;rw[ho]at hx;obtain⟨hle,hx⟩:=hx;obtain⟨b,c,hb,rfl,hlc,hcap,_⟩:=hx Ax;cases hk:Nat.beq i.size k' with
  |false=>rw[hk]at h;cases h
  |true=>
   have hk:=nBq hk;subst hk;simp only[Nat.beq_refl,cond_true]at h;cases hln:Nat.beq len 0 with
   |true=>have:=nBq hln;subst this;simp only[hln,cond_true,iS]at h;subst h;refine⟨w,?_,hh,Ext.refl _ _ _⟩;simp[Builtin.clear_,A7 w hu]
   |false=>
    have hln':=Nat.ne_of_beq_eq_false hln;rw[hln,cond_false]at h;cases h3:(Jm zs<|len*i.size).all AVal.one with
    |false=>rw[h3]at h;cases h
    |true=>
     rw[h3,cond_true]at h;injection h with h;subst h;have hrow:=A12 hl Y<|len*i.size;have hzl:(Jm zs<|len*i.size).length=len*i.size:=by simp[Jm]
     obtain⟨w',hr,h4,h5⟩:=A19 (P:=P) hh ho hb hrow (by rw[hzl];exact hle) h3;refine⟨w',?_,h4,h5⟩;obtain⟨m,rfl⟩:∃m,len=m+1:=⟨len-1,Y⟩;have hzc:Builtin.zeroCells z.cells (m+1)=(Array.range<|(m+1)*i.size).map (z.cells[· %z.cells.size]!):=by grind[Builtin.zeroCells]
     simp only[Builtin.clear_];simp only[Array.toList_map,Array.toList_range]at hr;simp[A7 w hu,hzr,hzc,hr]
 ·cases h
theorem A9m {P:Program}{W0 w:World}{bs:List Nat}{H:Hz}(hh:Ad W0 F bs H w){t e:TypeId}{k by':Nat}(ht:Gg P t=some (e,k,by')){zs:List AVal}(hz:Ee P e=some zs){j j':IntKind}{n:Int}(h0:0≤n)(hn:n≤1000000)(hby:by'≤1000):
 ∃cv w' bs',(Instr.makeSlice t (.int j n)<|.int j' n).run P w= .ok cv w'∧Rep F bs' (H++[.cells e (Jm zs<|n.toNat*k) false]) w' (.hsl k H.length 0 n.toNat<|some n.toNat) cv∧Ad W0 F bs' (H++[.cells e (Jm zs<|n.toNat*k) false]) w'∧Ext bs H w bs' (H++[.cells e (Jm zs<|n.toNat*k) false]) w':=by
 obtain⟨hu,hk1,i,z,hi,hzz,hisz,hiby,hzsz⟩:=Jz ht;subst hisz;subst hiby
 have hsz:(sizeOf e).run P w= .ok i.size w:=A9s;have hl:Aa F bs H w zs z.cells.toList:=by grind[Ee,Jk,Rep.const]
 have hzr:(zeroValue e).run P w= .ok z w:=Ab9;have start:∃z0:Array Value,((if n.toNat*i.size=0 then pure #[]else do pure (←zeroValue e).cells:Sem<|Array Value).run P w= .ok z0 w)∧Aa F bs H w (Jm zs<|n.toNat*i.size) ((Array.range<|n.toNat*i.size).map (z0[· %z0.size]!)).toList:=by
  by_cases h0:n.toNat*i.size=0;·simp_all[Jm,Aa]
  ·exact⟨z.cells,by simp[h0,hzr],A12 hl Y _⟩
 obtain⟨z0,hz0,hrow⟩:=start;obtain⟨h1,h2,h3⟩:=P2 hh e hrow;rw[Array.toArray_toList]at h1 h2 h3;have hw:IntKind.i64.wrap n=n:=by rw[IntKind.wrap_i64];omega
 have hbn:¬((i.bytes:Int)*n>2^48):=by have:(i.bytes:Int)*n≤1000*1000000:=Int.mul_le_mul Y hn h0 Y;omega
 refine⟨.slice (some ⟨w.heap.size,0,none⟩) n.toNat n.toNat,w.alloc<|.cells ((Array.range<|n.toNat*i.size).map (z0[· %z0.size]!)) e,_,?_,?_,h2,h3⟩
 ·have hroom:∀m,(askRoom m).run P w= .ok () w:=λm=>by simp_all
  simp only[Instr.makeSlice,asInt,asIntOf,sRb,Sem.run_pure,A7 w hu,E8 w hi,rAo,hw];rw[if_neg (by grind)];simp only[hroom,sRb,hsz,rAo];by_cases h00:n.toNat*i.size=0;all_goals simp_all[newRow]
 ·simp only[Rep,Ce,List.getElem?_concat_length];refine⟨⟨_,n.toNat,Nat.le_refl _,Z⟩,by simp[Jm],λ_=>⟨w.heap.size,n.toNat,A52,rfl,Nat.le_refl _,λc' h=>by injection h,Ax⟩⟩
end Go.Abs
