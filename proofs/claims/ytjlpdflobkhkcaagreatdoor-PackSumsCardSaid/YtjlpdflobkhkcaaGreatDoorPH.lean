/- A part of the proof that tabula/tabulalaw25.PackSums returns true for every input, each argument reading as it did (its card: the last text). No conditions of its own. -/
import Derived.Test.YtjlpdflobkhkcaaGreatDoorPG
set_option linter.unusedVariables false
set_option linter.unusedSimpArgs false
set_option maxHeartbeats 4000000
namespace Go.Abs
open Go.Proofs Go.RowKit
set_option maxRecDepth 100000
variable {W0 : World} {G : List (Nat × AVal)}
theorem Bv {c:UInt8}{r:Bz}(h:c≠61):X7 (c::r):=λc' r' e=>by grind
theorem A6c (s:Bz)(i:Nat):(s.getD i 0).toNat<256:=(s.getD i 0).toNat_lt
theorem A4h {s:Bz}{n:Nat}{low high:Int}(hn:n≤s.length)(hc:(n=2∧194≤(s.getD 0 0).toNat∧(s.getD 0 0).toNat≤223∧low=128∧high=191)∨(n=3∧224≤(s.getD 0 0).toNat∧(s.getD 0 0).toNat≤239∧128≤low∧high≤191∧((s.getD 0 0).toNat=224→low=160)∧((s.getD 0 0).toNat=237→high=159))∨(n=4∧240≤(s.getD 0 0).toNat∧(s.getD 0 0).toNat≤244∧128≤low∧high≤191∧((s.getD 0 0).toNat=240→low=144)∧((s.getD 0 0).toNat=244→high=143)))
 (h1:low≤((s.getD 1 0).toNat:Int)) (h2:((s.getD 1 0).toNat:Int)≤high) (h3:∀k,2≤k→k<n→128≤(s.getD k 0).toNat∧(s.getD k 0).toNat≤191):Kr s 0 n:=by
 refine⟨Y,?_⟩;simp only[Nat.zero_add,bt];rcases hc with⟨rfl,a1,a2,rfl,rfl⟩|⟨rfl,a1,a2,a3,a4,a5,a6⟩|⟨rfl,a1,a2,a3,a4,a5,a6⟩;all_goals grind
theorem Kr.undrop {s:Bz}{i n:Nat}(hi:i≤s.length)(h:Kr (s.drop i) 0 n):Kr s i n:=by obtain⟨h1,h⟩:=h;refine⟨by grind,?_⟩;simp_all[Rq]
def Acl :ACode:=.seq (sQ [yM 51 0,yV 52<|.idxStr 51<|vI 1,yV 53<|.conv (.int .i64) 52,yM 54 5,yV 55<|.bin .lss none 53 54,yM 56 55,yF 57 56<|.move 0,yF 58 56<|.idxStr 57<|vI 1,yF 59 56<|.conv (.int .i64) 58,yF 60 56<|.move 6,yF 61 56<|.bin .gtr none 59 60,yV 62<|.pick 56 (.val<|.bool true) 61]<|.cond 62 (sQ [yV 2<|.move<|vI 0] .ret) .skip)<|.seq (sQ [yV 7<|.move<|vI 2]<|.block 1<|.loop<|.seq (sQ [yM 63 7,yM 64 4,yV 65<|.bin .lss none 63 64]<|.cond 65 .skip<|.exit 1)<|.seq (.block 2<|sQ [yM 68 0,yM 69 7,yV 70<|.idxStr 68 69,yV 71<|.bin .lss none 70<|.val<|.int .u8 128,yM 72 71,yF 73 72<|.move 0,yF 74 72<|.move 7,yF 75 72<|.idxStr 73 74,yF 76 72<|.bin .gtr none 75<|.val<|.int .u8 191,yV 77<|.pick 72 (.val<|.bool true) 76]<|.cond 77 (sQ [yV 2<|.move<|vI 0] .ret) .skip)<|.ops [yM 66 7,yV 67<|.bin .add none 66<|vI 1,yM 7 67])<|sQ [yM 78 4,yM 2 78] .ret
def KF101 :AFn:=⟨(sQ [yV 2<|.move<|vI 0]<|.seq (sQ [yM 8 0,yV 9<|.len true 8,yV 10<|.bin .eql none 9<|vI 0]<|.cond 10 (sQ [yV 2<|.move<|vI 0] .ret) .skip)<|sQ [yM 11 0,yV 12<|.idxStr 11<|vI 0,yV 13<|.conv (.int .i64) 12,yM 3 13]<|.seq (sQ [yM 14 3,yV 15<|.bin .lss none 14<|vI 128]<|.cond 15 (sQ [yV 2<|.move<|vI 1] .ret) .skip)<|sQ [yV 4<|.move<|vI 0]<|sQ [yV 5<|.move<|vI 128]<|sQ [yV 6<|.move<|vI 191]<|.seq (sQ [yM 16 3,yV 17<|.bin .geq none 16<|vI 194,yM 18 17,yT 19 18<|.move 3,yT 20 18<|.bin .leq none 19<|vI 223,yV 21<|.pick 18 20<|.val<|.bool false]<|.cond 21 (.ops [yV 4<|.move<|vI 2]) .skip)<|.seq (sQ [yM 22 3,yV 23<|.bin .geq none 22<|vI 224,yM 24 23,yT 25 24<|.move 3,yT 26 24<|.bin .leq none 25<|vI 239,yV 27<|.pick 24 26<|.val<|.bool false]<|.cond 27 (.ops [yV 4<|.move<|vI 3]) .skip)<|.seq (sQ [yM 28 3,yV 29<|.bin .geq none 28<|vI 240,yM 30 29,yT 31 30<|.move 3,yT 32 30<|.bin .leq none 31<|vI 244,yV 33<|.pick 30 32<|.val<|.bool false]<|.cond 33 (.ops [yV 4<|.move<|vI 4]) .skip)<|.seq (sQ [yM 34 4,yV 35<|.bin .eql none 34<|vI 0,yM 36 35,yF 37 36<|.move 0,yF 38 36<|.len true 37,yF 39 36<|.move 4,yF 40 36<|.bin .lss none 38 39,yV 41<|.pick 36 (.val<|.bool true) 40]<|.cond 41 (sQ [yV 2<|.move<|vI 0] .ret) .skip)<|.seq (sQ [yM 42 3]<|.block 0<|sQ [yV 44<|.bin .eql none 42<|vI 224,yM 43 44]<|.cond 43 (.ops [yV 5<|.move<|vI 160])<|sQ [yV 46<|.bin .eql none 42<|vI 237,yM 45 46]<|.cond 45 (.ops [yV 6<|.move<|vI 159])<|sQ [yV 48<|.bin .eql none 42<|vI 240,yM 47 48]<|.cond 47 (.ops [yV 5<|.move<|vI 144])<|sQ [yV 50<|.bin .eql none 42<|vI 244,yM 49 50]<|.cond 49 (.ops [yV 6<|.move<|vI 143]) .skip) Acl),[2],79⟩
theorem KG101 :Gw Tryz.prog 206=some KF101:=Am
theorem nameE (hg:hGr W0 G){n:Int}:As Tryz.prog W0 195 [.int .i64 n] (λv=>∃t,v= .str t∧X7 t∧t.length≤1000):=by
 refine goE 195 20 ?_;refine sO<|x1 Z<|sq<|sO<|x1 Z<|bM<|sO ?_;refine mB hg gN Z Z O (λh1=>?_)<|λh1=>?_;·refine x1 Z<|cT Z<|sO<|x1 Z ?_;exact ExM.ret ⟨_,⟨_,Z,Bv V,V⟩,A6 O Z Z Z⟩
 ·refine x1 Z<|cF Z<|sO ?_;refine mB hg gN Z Z O (λh2=>?_)<|λh2=>?_;·refine x1 Z<|cT Z<|sO<|x1 Z ?_;exact ExM.ret ⟨_,⟨_,Z,Bv V,V⟩,A6 O Z Z Z⟩
  ·refine x1 Z<|cF Z<|sO ?_;refine mB hg gN Z Z O (λh3=>?_)<|λh3=>?_;·refine x1 Z<|cT Z<|sO<|x1 Z ?_;exact ExM.ret ⟨_,⟨_,Z,Bv V,V⟩,A6 O Z Z Z⟩
   ·refine x1 Z<|cF Z<|sO ?_;refine mB hg gN Z Z O (λh4=>?_)<|λh4=>?_;·refine x1 Z<|cT Z<|sO<|x1 Z ?_;exact ExM.ret ⟨_,⟨_,Z,Bv V,V⟩,A6 O Z Z Z⟩
    ·refine x1 Z<|cF Z<|sO ?_;refine mB hg gN Z Z O (λh5=>?_)<|λh5=>?_;·refine x1 Z<|cT Z<|sO<|x1 Z ?_;exact ExM.ret ⟨_,⟨_,Z,Bv V,V⟩,A6 O Z Z Z⟩
     ·refine x1 Z<|cF Z<|sO ?_;refine mB hg gN Z Z O (λh6=>?_)<|λh6=>?_;·refine x1 Z<|cT Z<|sO<|x1 Z ?_;exact ExM.ret ⟨_,⟨_,Z,Bv V,V⟩,A6 O Z Z Z⟩
      ·refine x1 Z<|cF Z<|sO ?_;refine mB hg gN Z Z O (λh7=>?_)<|λh7=>?_;·refine x1 Z<|cT Z<|sO<|x1 Z ?_;exact ExM.ret ⟨_,⟨_,Z,Bv V,V⟩,A6 O Z Z Z⟩
       ·refine x1 Z<|cF Z<|sO ?_;refine mB hg gN Z Z O (λh8=>?_)<|λh8=>?_;·refine x1 Z<|cT Z<|sO<|x1 Z ?_;exact ExM.ret ⟨_,⟨_,Z,Bv V,V⟩,A6 O Z Z Z⟩
        ·refine x1 Z<|cF Z<|kM<|sO<|x1 Z ?_;exact ExM.ret ⟨_,⟨_,Z,Bv V,V⟩,A6 O Z Z Z⟩
theorem errP (hg:hGr W0 G){n:Int}:cP W0 196 [.int .i64 n] [] (Dq 4 0 0 [] false n) []:=by refine goM 196 5 ?_;refine sO<|mV (v:=.ptr 0 0) Z<|mn<|sO<|m2 Z Z<|Ah hg gN Z<|mn ?_;exact ExM.ret<|pL
theorem Wi (hg:hGr W0 G){s:Bz}{n:Nat}{low high:Int}(hs:s.length≤150000000000000)(hn:n≤s.length)(hn2:2≤n)(hn4:n≤4)(hS:low≤((s.getD 1 0).toNat:Int)→((s.getD 1 0).toNat:Int)≤high→(∀k,2≤k→k<n→128≤(s.getD k 0).toNat∧(s.getD k 0).toNat≤191)→Kr s 0 n):ExM Tryz.prog W0 0 Acl ⟨.al [(0,.str s),(4,.int .i64 (n:Nat)),(5,.int .i64 low),(6,.int .i64 high)],[],79⟩ (λe s'=>∃v,(∃n:Nat,v= .int .i64 (n:Nat)∧n≤s.length∧n≤4∧(n=0∨Kr s 0 n))∧Iy KF101.res 0 v [] e s'):=by
 refine sq<|sO<|mV Z<|mS (v:=.int .u8 ((s.getD 1 0).toNat:Nat)) (J2 (n:=1) Z Z)<|mK (v:=.int .i64 ((s.getD 1 0).toNat:Nat)) Z (Bj Y (by grind[A6c]) Z)<|mV Z ?_;refine mB hg gN Z Z O (λh1=>?_)<|λh1=>?_;·refine mV Z<|mG<|mG<|mG<|mG<|mG<|x1 Z<|cT Z<|sO<|x1 Z<|ExM.ret ?_;exact⟨_,⟨0,Z,Nat.zero_le _,V,.inl Z⟩,A6 O Z Z Z⟩
 ·have hlow:=Int.not_lt.1<|of_decide_eq_false h1;refine m2 Z Z<|mS (v:=.int .u8 ((s.getD 1 0).toNat:Nat)) (J2 (n:=1) Z Z)<|mK (v:=.int .i64 ((s.getD 1 0).toNat:Nat)) Z (Bj Y (by grind[A6c]) Z)<|mV Z ?_;refine mB hg (gS Z) Z Z O (λh2=>?_)<|λh2=>?_;·refine x1 Z<|cT Z<|sO<|x1 Z<|ExM.ret ?_;exact⟨_,⟨0,Z,Nat.zero_le _,V,.inl Z⟩,A6 O Z Z Z⟩
  ·have hhigh:=Int.not_lt.1<|of_decide_eq_false h2;refine x1 Z<|cF Z<|kM<|sq<|sO<|x1 Z<|bM<|ExM.loop (σ:=Nat) (λi=>⟨.al [(0,.str s),(4,.int .i64 (n:Nat)),(7,.int .i64 (i:Nat))],[],79⟩) (λi=>2≤i∧i≤n∧∀k,2≤k→k<i→128≤(s.getD k 0).toNat∧(s.getD k 0).toNat≤191) (λi=>n-i) 2 (Aq 0 Z (Nat.le_refl _) Z Z<|fS<|fI<|fI fzN) ⟨Y,Y,λk h1 h2=>by omega⟩ ?_;rintro i ⟨hi2,hi,hall⟩;refine sq<|sO<|m2 Z Z ?_;by_cases hin:i<n
   ·refine mT Z<|mn<|cT Z<|kM<|sq<|bM<|sO<|m2 Z Z<|mS (v:=.int .u8 ((s.getD i 0).toNat:Nat)) (J2 Z Z) ?_;refine mB hg gN Z Z O (λh3=>?_)<|λh3=>?_;·refine mV Z<|mG<|mG<|mG<|mG<|x1 Z<|cT Z<|sO<|x1 Z<|ExM.ret ?_;exact⟨_,⟨0,Z,Nat.zero_le _,V,.inl Z⟩,A6 O Z Z Z⟩
    ·have hb1:=of_decide_eq_false h3;refine m3 Z Z Z<|mS (v:=.int .u8 ((s.getD i 0).toNat:Nat)) (J2 Z Z) ?_;refine mB hg (gS Z) Z Z O (λh4=>?_)<|λh4=>?_;·refine x1 Z<|cT Z<|sO<|x1 Z<|ExM.ret ?_;exact⟨_,⟨0,Z,Nat.zero_le _,V,.inl Z⟩,A6 O Z Z Z⟩
     ·have hb2:=of_decide_eq_false h4;refine x1 Z<|cF Z<|kM<|oM<|mV Z<|mI ((i+1:Nat)) Z<|x1 Z ?_;exact⟨i+1,⟨Y,Y,λk h1 h2=>(Nat.lt_or_ge k i).elim (hall k h1) (λh=>by grind)⟩,Y,Aq 0 Z (Nat.le_refl _) Z Z<|fS<|fI<|fI fzN⟩
   ·refine mF Z<|mn<|cF Z<|ExM.exit<|sO<|x2 Z Z<|ExM.ret ?_;exact⟨_,⟨n,Z,Y,Y,.inr<|hS hlow hhigh λk h1 h2=>hall k h1 Y⟩,A6 O Z Z Z⟩
theorem signE (hg:hGr W0 G){s:Bz}(hs:s.length≤150000000000000):As Tryz.prog W0 206 [.str s] (λv=>∃n:Nat,v= .int .i64 (n:Nat)∧n≤s.length∧n≤4∧(n=0∨Kr s 0 n)):=by
 refine As.of_fnM KG101 Ax Z<|ExM.seq<|ExM.ops hg<|Ac hg gN Z Z O<|Ba<|ExM.seq<|ExM.seq<|ExM.ops hg<|Ac hg gN Z Z O<|Ac hg gN Z Z O ?_;by_cases hem:s.length=0;·refine mT Z<|mn<|cT Z<|sO<|x1 Z<|ExM.ret ?_;exact⟨_,⟨0,Z,Nat.zero_le _,V,.inl Z⟩,A6 O Z Z Z⟩
 have ha:=A6c s 0;refine mF Z<|mn<|cF Z<|kM<|sO<|mV Z<|mS (v:=.int .u8 ((s.getD 0 0).toNat:Nat)) (J2 (n:=0) Z Z)<|mK (v:=.int .i64 ((s.getD 0 0).toNat:Nat)) Z (Bj Y Y Z)<|x1 Z<|sq<|sO<|mV Z ?_;by_cases h1:(s.getD 0 0).toNat<128;·refine mT Z<|mn<|cT Z<|sO<|x1 Z<|ExM.ret ?_;exact⟨_,⟨1,Z,Y,V,.inr ⟨Y,.inl ⟨Z,by grind[bt]⟩⟩⟩,A6 trivial rfl rfl rfl⟩
 refine mF Z<|mn<|cF Z<|kM<|sO<|x1 Z<|sO<|x1 Z<|sO<|x1 Z<|sq<|sO<|mV Z ?_;by_cases h2:(s.getD 0 0).toNat<194;·refine mF Z<|mV Z<|mG<|mG<|x1 Z<|cF Z<|kM<|sq<|sO<|mV Z<|mF Z<|mV Z<|mG<|mG<|x1 Z<|cF Z<|kM<|sq<|sO<|mV Z<|mF Z<|mV Z<|mG<|mG<|x1 Z<|cF Z<|kM<|sq<|sO<|mV Z<|mT Z<|mV Z<|mG<|mG<|mG<|mG<|x1 Z<|cT Z<|sO<|x1 Z<|ExM.ret ?_;exact⟨_,⟨0,Z,Nat.zero_le _,V,.inl Z⟩,A6 O Z Z Z⟩
 refine mT Z<|m2 Z Z ?_;by_cases h3:244<(s.getD 0 0).toNat;·refine mF Z<|x1 Z<|cF Z<|kM<|sq<|sO<|mV Z<|mT Z<|m2 Z Z<|mF Z<|x1 Z<|cF Z<|kM<|sq<|sO<|mV Z<|mT Z<|m2 Z Z<|mF Z<|x1 Z<|cF Z<|kM<|sq<|sO<|mV Z<|mT Z<|mV Z<|mG<|mG<|mG<|mG<|x1 Z<|cT Z<|sO<|x1 Z<|ExM.ret ?_;exact⟨_,⟨0,Z,Nat.zero_le _,V,.inl Z⟩,A6 O Z Z Z⟩
 by_cases h4:(s.getD 0 0).toNat≤223
 ·refine mT Z<|x1 Z<|cT Z<|oM<|x1 Z<|sq<|sO<|mV Z<|mF Z<|mV Z<|mG<|mG<|x1 Z<|cF Z<|kM<|sq<|sO<|mV Z<|mF Z<|mV Z<|mG<|mG<|x1 Z<|cF Z<|kM<|sq<|sO<|mV Z<|mF Z<|m4 Z Z Z Z ?_;refine mB hg (gS Z) Z Z O (λh1=>?_)<|λh1=>?_;·refine x1 Z<|cT Z<|sO<|x1 Z<|ExM.ret ?_;exact⟨_,⟨0,Z,Nat.zero_le _,V,.inl Z⟩,A6 O Z Z Z⟩
  ·have hsl:=of_decide_eq_false h1;refine x1 Z<|cF Z<|kM<|sq<|sO<|x1 Z<|bM<|sO<|mF Z<|x1 Z<|cF Z<|sO<|mF Z<|x1 Z<|cF Z<|sO<|mF Z<|x1 Z<|cF Z<|sO<|mF Z<|x1 Z<|cF Z<|kM ?_;exact ExM.fz (Aq 0 Z (Nat.le_refl _) Z Z<|fS<|fI<|fI<|fI fzN)<|Wi hg (n:=2) (low:=128) (high:=191) hs Y V V<|λh1 h2 h3=>A4h Y Y h1 h2 h3
 refine mF Z<|x1 Z<|cF Z<|kM<|sq<|sO<|mV Z<|mT Z<|m2 Z Z ?_;by_cases h5:(s.getD 0 0).toNat=224
 ·refine mT Z<|x1 Z<|cT Z<|oM<|x1 Z<|sq<|sO<|mV Z<|mF Z<|mV Z<|mG<|mG<|x1 Z<|cF Z<|kM<|sq<|sO<|mV Z<|mF Z<|m4 Z Z Z Z ?_;refine mB hg (gS Z) Z Z O (λh1=>?_)<|λh1=>?_;·refine x1 Z<|cT Z<|sO<|x1 Z<|ExM.ret ?_;exact⟨_,⟨0,Z,Nat.zero_le _,V,.inl Z⟩,A6 O Z Z Z⟩
  ·have hsl:=of_decide_eq_false h1;refine x1 Z<|cF Z<|kM<|sq<|sO<|x1 Z<|bM<|sO<|mT Z<|x1 Z<|cT Z<|oM<|x1 Z ?_;exact ExM.fz (Aq 0 Z (Nat.le_refl _) Z Z<|fS<|fI<|fI<|fI fzN)<|Wi hg (n:=3) (low:=160) (high:=191) hs Y V V<|λh1 h2 h3=>A4h Y Y h1 h2 h3
 by_cases h6:(s.getD 0 0).toNat=237
 ·refine mT Z<|x1 Z<|cT Z<|oM<|x1 Z<|sq<|sO<|mV Z<|mF Z<|mV Z<|mG<|mG<|x1 Z<|cF Z<|kM<|sq<|sO<|mV Z<|mF Z<|m4 Z Z Z Z ?_;refine mB hg (gS Z) Z Z O (λh1=>?_)<|λh1=>?_;·refine x1 Z<|cT Z<|sO<|x1 Z<|ExM.ret ?_;exact⟨_,⟨0,Z,Nat.zero_le _,V,.inl Z⟩,A6 O Z Z Z⟩
  ·have hsl:=of_decide_eq_false h1;refine x1 Z<|cF Z<|kM<|sq<|sO<|x1 Z<|bM<|sO<|mF Z<|x1 Z<|cF Z<|sO<|mT Z<|x1 Z<|cT Z<|oM<|x1 Z ?_;exact ExM.fz (Aq 0 Z (Nat.le_refl _) Z Z<|fS<|fI<|fI<|fI fzN)<|Wi hg (n:=3) (low:=128) (high:=159) hs Y V V<|λh1 h2 h3=>A4h Y Y h1 h2 h3
 by_cases h7:(s.getD 0 0).toNat≤239
 ·refine mT Z<|x1 Z<|cT Z<|oM<|x1 Z<|sq<|sO<|mV Z<|mF Z<|mV Z<|mG<|mG<|x1 Z<|cF Z<|kM<|sq<|sO<|mV Z<|mF Z<|m4 Z Z Z Z ?_;refine mB hg (gS Z) Z Z O (λh1=>?_)<|λh1=>?_;·refine x1 Z<|cT Z<|sO<|x1 Z<|ExM.ret ?_;exact⟨_,⟨0,Z,Nat.zero_le _,V,.inl Z⟩,A6 O Z Z Z⟩
  ·have hsl:=of_decide_eq_false h1;refine x1 Z<|cF Z<|kM<|sq<|sO<|x1 Z<|bM<|sO<|mF Z<|x1 Z<|cF Z<|sO<|mF Z<|x1 Z<|cF Z<|sO<|mF Z<|x1 Z<|cF Z<|sO<|mF Z<|x1 Z<|cF Z<|kM ?_;exact ExM.fz (Aq 0 Z (Nat.le_refl _) Z Z<|fS<|fI<|fI<|fI fzN)<|Wi hg (n:=3) (low:=128) (high:=191) hs Y V V<|λh1 h2 h3=>A4h Y Y h1 h2 h3
 refine mF Z<|x1 Z<|cF Z<|kM<|sq<|sO<|mV Z<|mT Z<|m2 Z Z<|mT Z<|x1 Z<|cT Z<|oM<|x1 Z<|sq<|sO<|mV Z<|mF Z<|m4 Z Z Z Z ?_;by_cases h8:(s.getD 0 0).toNat=240
 ·refine mB hg (gS Z) Z Z O (λh1=>?_)<|λh1=>?_;·refine x1 Z<|cT Z<|sO<|x1 Z<|ExM.ret ?_;exact⟨_,⟨0,Z,Nat.zero_le _,V,.inl Z⟩,A6 O Z Z Z⟩
  ·have hsl:=of_decide_eq_false h1;refine x1 Z<|cF Z<|kM<|sq<|sO<|x1 Z<|bM<|sO<|mF Z<|x1 Z<|cF Z<|sO<|mF Z<|x1 Z<|cF Z<|sO<|mT Z<|x1 Z<|cT Z<|oM<|x1 Z ?_;exact ExM.fz (Aq 0 Z (Nat.le_refl _) Z Z<|fS<|fI<|fI<|fI fzN)<|Wi hg (n:=4) (low:=144) (high:=191) hs Y V V<|λh1 h2 h3=>A4h Y Y h1 h2 h3
 by_cases h9:(s.getD 0 0).toNat=244
 ·refine mB hg (gS Z) Z Z O (λh1=>?_)<|λh1=>?_;·refine x1 Z<|cT Z<|sO<|x1 Z<|ExM.ret ?_;exact⟨_,⟨0,Z,Nat.zero_le _,V,.inl Z⟩,A6 O Z Z Z⟩
  ·have hsl:=of_decide_eq_false h1;refine x1 Z<|cF Z<|kM<|sq<|sO<|x1 Z<|bM<|sO<|mF Z<|x1 Z<|cF Z<|sO<|mF Z<|x1 Z<|cF Z<|sO<|mF Z<|x1 Z<|cF Z<|sO<|mT Z<|x1 Z<|cT Z<|oM<|x1 Z ?_;exact ExM.fz (Aq 0 Z (Nat.le_refl _) Z Z<|fS<|fI<|fI<|fI fzN)<|Wi hg (n:=4) (low:=128) (high:=143) hs Y V V<|λh1 h2 h3=>A4h Y Y h1 h2 h3
 refine mB hg (gS Z) Z Z O (λh1=>?_)<|λh1=>?_;·refine x1 Z<|cT Z<|sO<|x1 Z<|ExM.ret ?_;exact⟨_,⟨0,Z,Nat.zero_le _,V,.inl Z⟩,A6 O Z Z Z⟩
 ·have hsl:=of_decide_eq_false h1;refine x1 Z<|cF Z<|kM<|sq<|sO<|x1 Z<|bM<|sO<|mF Z<|x1 Z<|cF Z<|sO<|mF Z<|x1 Z<|cF Z<|sO<|mF Z<|x1 Z<|cF Z<|sO<|mF Z<|x1 Z<|cF Z<|kM ?_;exact ExM.fz (Aq 0 Z (Nat.le_refl _) Z Z<|fS<|fI<|fI<|fI fzN)<|Wi hg (n:=4) (low:=128) (high:=191) hs Y V V<|λh1 h2 h3=>A4h Y Y h1 h2 h3
theorem isTextE (hg:hGr W0 G){s:Bz}(hs:s.length≤100000):As Tryz.prog W0 249 [.str s] (λv=>∃b,v= .bool b∧(b=true→Txt s 0)):=by
 refine goE 249 30 ?_;refine ExM.seq<|ExM.ops hg<|Ac hg gN Z Z O<|Ba<|ExM.seq<|ExM.seq<|ExM.ops hg<|Ac hg gN Z Z O<|Ba<|ExM.block<|ExM.loop (σ:=Nat) (λi=>⟨.al [(0,.str s),(3,.int .i64 (i:Nat))],[],30⟩) (λi=>i≤s.length∧(Txt s i→Txt s 0)) (λi=>s.length-i) 0 (Aq 0 Z (Nat.le_refl _) Z Z<|fS<|fI fzN) ⟨Nat.zero_le _,id⟩ ?_;rintro i ⟨hi,hT⟩;refine sq<|sO<|m3 Z Z Z ?_;by_cases hin:i<s.length
 ·refine mT Z<|mn<|cT Z<|kM<|bM<|sO<|m2 Z Z<|mS (v:=.str<|s.drop i) Z ?_;refine C0 hg gN Z Z Z (signE hg (s:=s.drop i) (by grind)) ?_ ?_;·rintro _ ⟨n,rfl,hn,hn4,hsg⟩;rfl
  rintro _ ⟨n,rfl,hn,hn4,hsg⟩;rw[List.length_drop]at hn;refine x1 Z<|sq<|sO<|mV Z ?_;refine mB hg gN Z Z O (λh1=>?_)<|λh1=>?_;·refine mV Z<|mG<|mG<|mG<|mG<|m2 Z Z<|mG<|mG<|mG<|mG<|x1 Z<|cT Z<|sO<|x1 Z<|ExM.ret ?_;exact⟨_,⟨false,rfl,λh=>by cases h⟩,A6 trivial rfl rfl rfl⟩
  ·have hn0:n≠0:=by grind
   refine m3 Z Z Z<|mS (v:=.int .u8 ((s.getD i 0).toNat:Nat)) (J2 Z Z) ?_;refine mB hg (gS Z) Z Z O (λh2=>?_)<|λh2=>?_;·refine m2 Z Z<|mG<|mG<|mG<|mG<|x1 Z<|cT Z<|sO<|x1 Z<|ExM.ret ?_;exact⟨_,⟨false,rfl,λh=>by cases h⟩,A6 trivial rfl rfl rfl⟩
   ·have hb1:=of_decide_eq_false h2;refine m4 Z Z Z Z<|mS (v:=.int .u8 ((s.getD i 0).toNat:Nat)) (J2 Z Z) ?_;refine mB hg (gS Z) Z Z O (λh3=>?_)<|λh3=>?_;·refine x1 Z<|cT Z<|sO<|x1 Z<|ExM.ret ?_;exact⟨_,⟨false,rfl,λh=>by cases h⟩,A6 trivial rfl rfl rfl⟩
    ·have hb2:=h3;rw[bFn]at hb2;refine x1 Z<|cF Z<|kM<|oM<|m2 Z Z<|mI ((i+n:Nat)) Z<|x1 Z ?_;exact⟨i+n,⟨Y,λh=>hT<|.step ((hsg.resolve_left hn0).undrop hi) (by grind[bt]) (by grind[bt]) h⟩,Y,Aq 0 Z (Nat.le_refl _) Z Z<|fS<|fI fzN⟩
 ·refine mF Z<|mn<|cF Z<|ExM.exit<|sO<|x1 Z<|ExM.ret ?_;have hil:i=s.length:=Y;subst hil;exact⟨_,⟨true,Z,λ_=>hT .done⟩,A6 O Z Z Z⟩
theorem Zr (hg:hGr W0 G){s:Bz}(hs:s.length≤100000):As Tryz.prog W0 197 [.str s] (λv=>∃b,v= .bool b∧(b=true→Txt s 0)):=by
 refine goE 197 10 ?_;refine sO<|x1 Z<|sO<|m2 Z Z ?_;refine mB hg gN Z Z O (λh1=>?_)<|λh1=>?_
 ·refine m2 Z Z ?_;refine C0 hg (gS Z) Z Z Z (isTextE hg hs) ?_ ?_;·rintro _ ⟨b,rfl,hb⟩;rfl
  rintro _ ⟨b,rfl,hb⟩;refine x2 Z Z ?_;exact ExM.ret ⟨_,⟨_,Z,hb⟩,A6 O Z Z Z⟩
 ·refine mV Z<|mG<|mG<|x2 Z Z ?_;exact ExM.ret ⟨_,⟨_,rfl,λh=>by cases h⟩,A6 trivial rfl rfl rfl⟩
theorem textOfE (hg:hGr W0 G){s:Bz}(hs:s.length≤150000000000000):As Tryz.prog W0 136 [.str s] (λv=>∃t,v= .str t∧t.length≤40):=by
 refine goE 136 47 ?_;refine ExM.seq<|ExM.ops hg<|Ac hg gN Z Z O<|Ba<|ExM.seq<|ExM.ops hg<|Ac hg gN Z Z O<|Ba<|ExM.seq<|ExM.seq<|ExM.ops hg<|Ac hg gN Z Z O<|Ba<|ExM.block<|ExM.loop (σ:=Nat×Bz) (λσ=>⟨.al [(0,.str s),(3,.str σ.2),(4,.int .i64 (σ.1:Nat))],[],47⟩) (λσ=>σ.1≤s.length∧σ.2.length≤40) (λσ=>s.length-σ.1) (0,[]) (Aq 0 Z (Nat.le_refl _) Z Z<|fS<|fS<|fI fzN) ⟨Nat.zero_le _,Ax⟩ ?_;rintro⟨i,t⟩ ⟨hi,ht⟩;simp only at hi ht⊢;by_cases hin:i<s.length
 ·refine sq<|sO<|m3 Z Z Z<|mT Z<|m3 Z Z Z ?_;by_cases ht37:t.length<37
  ·refine mT Z<|x1 Z<|cT Z<|kM<|bM<|sO<|m2 Z Z<|mS (v:=.str<|s.drop i) Z ?_;refine C0 hg gN Z Z Z (signE hg (s:=s.drop i) (by grind)) ?_ ?_;·rintro _ ⟨n,rfl,hn,hn4,hsg⟩;rfl
   rintro _ ⟨n,rfl,hn,hn4,hsg⟩;rw[List.length_drop]at hn;refine x1 Z<|sq<|sO<|mV Z ?_;refine mB hg gN Z Z O (λh1=>?_)<|λh1=>?_;·refine mV Z<|mG<|mG<|mG<|mG<|m2 Z Z<|mG<|mG<|mG<|mG<|x1 Z<|cT Z<|sO<|mV Z<|mI ((i+1:Nat)) Z<|x1 Z<|ExM.exit ?_;first|exact⟨(i+1,t),⟨Y,Y⟩,Y,Aq 0 rfl (Nat.le_refl _) rfl rfl<|fS<|fS<|fI fzN⟩|exact⟨(i+n,t++(s.take<|i+n).drop i),⟨bY8,bY49⟩,bY8,Aq 0 rfl (Nat.le_refl _) rfl rfl<|fS<|fS<|fI fzN⟩
   ·have hn0:n≠0:=by grind
    refine m3 Z Z Z<|mS (v:=.int .u8 ((s.getD i 0).toNat:Nat)) (J2 Z Z) ?_;refine mB hg (gS Z) Z Z O (λh2=>?_)<|λh2=>?_;·refine m2 Z Z<|mG<|mG<|mG<|mG<|x1 Z<|cT Z<|sO<|mV Z<|mI ((i+1:Nat)) Z<|x1 Z<|ExM.exit ?_;first|exact⟨(i+1,t),⟨Y,Y⟩,Y,Aq 0 rfl (Nat.le_refl _) rfl rfl<|fS<|fS<|fI fzN⟩|exact⟨(i+n,t++(s.take<|i+n).drop i),⟨bY8,bY49⟩,bY8,Aq 0 rfl (Nat.le_refl _) rfl rfl<|fS<|fS<|fI fzN⟩
    ·refine m4 Z Z Z Z<|mS (v:=.int .u8 ((s.getD i 0).toNat:Nat)) (J2 Z Z) ?_;refine mB hg (gS Z) Z Z O (λh3=>?_)<|λh3=>?_;·refine x1 Z<|cT Z<|sO<|mV Z<|mI ((i+1:Nat)) Z<|x1 Z<|ExM.exit ?_;first|exact⟨(i+1,t),⟨Y,Y⟩,Y,Aq 0 rfl (Nat.le_refl _) rfl rfl<|fS<|fS<|fI fzN⟩|exact⟨(i+n,t++(s.take<|i+n).drop i),⟨bY8,bY49⟩,bY8,Aq 0 rfl (Nat.le_refl _) rfl rfl<|fS<|fS<|fI fzN⟩
     ·refine x1 Z<|cF Z<|kM<|sO<|mV Z<|m4 Z Z Z Z<|mI ((i+n:Nat)) Z<|mS (v:=.str<|(s.take<|i+n).drop i) Z<|Ac hg gN Z Z (by simp only[Ag,and_true,List.length_drop,List.length_take];omega)<|x1 Z<|oM<|m2 Z Z<|mI ((i+n:Nat)) Z<|x1 Z ?_;first|exact⟨(i+1,t),⟨Y,Y⟩,Y,Aq 0 rfl (Nat.le_refl _) rfl rfl<|fS<|fS<|fI fzN⟩|exact⟨(i+n,t++(s.take<|i+n).drop i),⟨Y,by grind⟩,Y,Aq 0 rfl (Nat.le_refl _) rfl rfl<|fS<|fS<|fI fzN⟩
  ·refine mF Z<|x1 Z<|cF Z<|ExM.exit<|sO<|x2 Z Z<|ExM.ret ?_;exact⟨_,⟨t,Z,ht⟩,A6 O Z Z Z⟩
 ·refine sq<|sO<|m3 Z Z Z<|mF Z<|mV Z<|mG<|mG<|mG<|x1 Z<|cF Z<|ExM.exit<|sO<|x2 Z Z<|ExM.ret ?_;exact⟨_,⟨t,Z,ht⟩,A6 O Z Z Z⟩
def u8s (l:List Nat):List AVal:=l.map λ(d:Nat)=>.int .u8 d
theorem Xt (l:List Nat):(u8s l).length=l.length:=by simp[u8s]
theorem A9e {l:List Nat}{i:Nat}(h:i<l.length):(u8s l).drop i= .int .u8 (l.getD i 0:Nat)::(u8s l).drop (i+1):=by rw[u8s,←List.map_drop,←List.map_drop,W5 h];rfl
theorem A7o {s:St}{x i:AOpd}{id T m:Nat}{c:Option Nat}{cs:List AVal}{n:Nat}(hx:ev G s x=some (.hsl 1 id 0 m c))(hi:ev G s i=some (.int .i64 (n:Nat)))(ho:s.H[id]?=some (.cells T cs false)):aop G s (.idxSl 1 x i)=some (.val (.ptr id n) s.H [(0,(n:Nat)),((n:Nat)+1,(m:Nat))]):=by simp_all[Nx,aop]
theorem A5s {s:St}{a:AOpd}{id T:Nat}{l:List Nat}{n:Nat}(ha:ev G s a=some (.ptr id n))(ho:s.H[id]?=some (.cells T (u8s l) false))(hn:n<l.length):aop G s (.load 1 false a)=some (.val (.int .u8 (l.getD n 0:Nat)) s.H []):=by simp only[aop,ha,J4,ho,Bt,A9e hn];rfl
theorem u8s_set {l:List Nat}{n x:Nat}(h:n<l.length):spl (u8s l) n [.int .u8 (x:Nat)]=u8s (l.set n x):=by simp_all[spl,u8s,List.set_eq_take_append_cons_drop]
theorem Acw {s:St}{a x:AOpd}{id T:Nat}{l:List Nat}{n v:Nat}{H':Hz}(ha:ev G s a=some (.ptr id n))(hx:ev G s x=some (.int .u8 (v:Nat)))(ho:s.H[id]?=some (.cells T (u8s l) false))(hn:n<l.length)(hH:s.H.set id (.cells T (u8s<|l.set n v) false)=H'):aop G s (.store 1 a x)=some (.skip H'):=by
 subst hH;have h1:Nat.ble (n+1) (u8s l).length=true:=by rw[Xt];exact Nat.ble_eq_true_of_le hn
 have h2:(Nat.beq [AVal.int .u8 (v:Nat)].length 1&&Nat.ble (n+1) (u8s l).length&&[AVal.int .u8 (v:Nat)].all AVal.one)=true:=by rw[h1];rfl
 simp only[aop,ha,hx,M7,ho];show(match(cond (Nat.beq [AVal.int .u8 (v:Nat)].length 1&&Nat.ble (n+1) (u8s l).length&&[AVal.int .u8 (v:Nat)].all AVal.one) (some<|s.H.set id<|.cells T (spl (u8s l) n [.int .u8 (v:Nat)]) false) none)with|some H'=>some (ARes.skip H')|none=>none)=_;grind[u8s_set]
theorem bytesU (l:List Nat):bytesOf (u8s l)=some (l.map UInt8.ofNat):=by induction l with|nil=>rfl|cons d l ih=>show(match bytesOf (u8s l)with|some l'=>some (UInt8.ofNat (((d:Nat):Int)).toNat::l')|none=>none)=_;rw[ih];rfl
theorem b2sB {s:St}{x:AOpd}{id T m:Nat}{c:Option Nat}{l:List Nat}(hx:ev G s x=some (.hsl 1 id 0 m c))(ho:s.H[id]?=some (.cells T (u8s l) false))(hm:m=l.length):aop G s (.conv .b2s x)=some (.val (.str<|l.map UInt8.ofNat) s.H []):=by
 subst hm;have h1:((u8s l).drop 0).take (l.length*1)=u8s l:=by simp_all[List.take_of_length_le,Xt]
 simp only[aop,hx,Py,A8n,D6,Nat.beq_refl,cond_true,ho,h1,bytesU];rfl
theorem s2bB (s:Bz):(s.map λb=>AVal.int .u8 (b.toNat:Nat))=u8s (s.map UInt8.toNat):=by rw[u8s,List.map_map];rfl
theorem O6 {k T:Nat}(l:List Nat):B9 k [.cells T (u8s l) false]=true:=by
 have:Ab k (u8s l)=true:=by induction l with|nil=>rfl|cons d l ih=>exact ih
 show cond (Ab k<|u8s l) true false=true;grind
theorem foldE (hg:hGr W0 G){s:Bz}(hs:s.length≤100000):As Tryz.prog W0 194 [.str s] (λv=>∃t,v= .str t):=by
 refine goE 194 35 ?_;refine ExM.seq<|ExM.ops hg<|Ac hg gN Z Z O<|Ba<|ExM.seq<|ExM.ops hg<|Ac hg gN Z Z O<|Ac hg gN (v:=.hsl 1 0 0 s.length none) Z Z O<|Ac hg gN Z Z O<|Ba<|ExM.seq<|ExM.seq<|ExM.ops hg<|Ac hg gN Z Z O<|Ba<|ExM.block<|ExM.loop (σ:=Nat×List Nat) (λσ=>⟨.al [(3,.hsl 1 0 0 s.length none),(4,.int .i64 (σ.1:Nat))],[.cells 5 (u8s σ.2) false],35⟩) (λσ=>σ.1≤s.length∧σ.2.length=s.length) (λσ=>s.length-σ.1) (0,s.map UInt8.toNat) (Aq 1 Z (Nat.zero_le _) (by rw[←s2bB];rfl) (O6 _)<|fzC Z (fvH Z)<|fI fzN) ⟨Nat.zero_le _,Ax⟩ ?_;rintro⟨i,l⟩ ⟨hi,hl⟩;simp only at hi hl⊢;refine sq<|sO<|m3 Z Z Z ?_;by_cases hin:i<s.length
 ·refine mT Z<|mn<|cT Z<|kM<|sq<|bM<|sO<|m2 Z Z<|mS (v:=.ptr 0 i) (A7o Z Z Z)<|mV (v:=.int .u8 (l.getD i 0:Nat)) (A5s Z Z Y) ?_;by_cases h65:65≤l.getD i 0
  ·refine mT Z<|m3 Z Z Z<|mS (v:=.ptr 0 i) (A7o Z Z Z)<|mV (v:=.int .u8 (l.getD i 0:Nat)) (A5s Z Z Y) ?_;by_cases h90:l.getD i 0≤90;·refine mT Z<|x1 Z<|cT Z<|oM<|m4 Z Z Z Z<|mS (v:=.ptr 0 i) (A7o Z Z Z)<|mV (v:=.int .u8 (l.getD i 0:Nat)) (A5s Z Z Y)<|mKs (v:=.int .u8<|(l.getD i 0+32:Nat)) Z (w8E Y Y Y)<|mS (v:=.ptr 0 i) (A7o Z Z Z)<|Ah hg gN (Acw Z Z Z Y Z)<|mn<|oM<|mV Z<|mI ((i+1:Nat)) Z<|x1 Z ?_;exact⟨(i+1,l.set i<|l.getD i 0+32),⟨Y,by grind⟩,Y,Aq 1 rfl (Nat.zero_le _) rfl (O6 _)<|fzC Z (fvH Z)<|fI fzN⟩
   ·refine mF Z<|x1 Z<|cF Z<|kM<|oM<|mV Z<|mI ((i+1:Nat)) Z<|x1 Z ?_;exact⟨(i+1,l),⟨Y,hl⟩,Y,Aq 1 Z (Nat.zero_le _) Z (O6 _)<|fzC Z (fvH Z)<|fI fzN⟩
  ·refine mF Z<|mV Z<|mG<|mG<|mG<|mG<|mG<|x1 Z<|cF Z<|kM<|oM<|mV Z<|mI ((i+1:Nat)) Z<|x1 Z ?_;exact⟨(i+1,l),⟨Y,hl⟩,Y,Aq 1 Z (Nat.zero_le _) Z (O6 _)<|fzC Z (fvH Z)<|fI fzN⟩
 ·refine mF Z<|mn<|cF Z<|ExM.exit<|sO<|mV Z<|mV (v:=.str<|l.map UInt8.ofNat) (b2sB Z Z hl.symm)<|x1 Z<|ExM.ret ?_;exact⟨_,⟨_,Z⟩,A4 O Z Z 100 Z Z⟩
end Go.Abs
namespace Go.Abs
open Go.Proofs Go.RowKit
set_option maxRecDepth 100000
variable {W0 : World} {G : List (Nat × AVal)}
set_option maxRecDepth 10000000
theorem bareK1 (hk:Kn W0){a1 a2:Int}:cP W0 192 [N110 a1 a2,.int .i64 1] [] (.bool true) []:=E4 (H7 hk Pv) (show G6 Tryz.prog GL Hr Pv Fb libTab 1000 60 192 [N110 a1 a2,.int .i64 1] [] (ss0 17 [] 0 [] [] [])=some (.bool true,[],SS.mk 0 [] 0 [] [] [] [])by kernel_rfl)<|gdN
theorem bareK2 (hk:Kn W0){s1:Bz}:cP W0 192 [Nz s1,.int .i64 2] [] (.bool true) []:=E4 (H7 hk Pv) (show G6 Tryz.prog GL Hr Pv Fb libTab 1000 60 192 [Nz s1,.int .i64 2] [] (ss0 17 [] 0 [] [] [])=some (.bool true,[],SS.mk 0 [] 0 [] [] [] [])by kernel_rfl)<|gdN
theorem sameK0 (hk:Kn W0){s1 s2:Bz}{a1 a2 a3:Int}{bR:Bool}:cP W0 130 [N114 a1 a2 s2 bR a3,Nz s1] [] (.bool false) []:=E4 (H7 hk Pv) (show G6 Tryz.prog GL Hr Pv Fb libTab 1000 60 130 [N114 a1 a2 s2 bR a3,Nz s1] [] (ss0 1 [] 0 [] [] [])=some (.bool false,[],SS.mk 0 [] 0 [] [] [] [])by kernel_rfl)<|gdN
theorem sameK1 (hk:Kn W0){s1 s2:Bz}{a1 a2 a3:Int}{bR:Bool}:cP W0 130 [N115 a1 a2 s2 bR a3,Nz s1] [] (.bool false) []:=E4 (H7 hk Pv) (show G6 Tryz.prog GL Hr Pv Fb libTab 1000 60 130 [N115 a1 a2 s2 bR a3,Nz s1] [] (ss0 1 [] 0 [] [] [])=some (.bool false,[],SS.mk 0 [] 0 [] [] [] [])by kernel_rfl)<|gdN
theorem sameK3 (hk:Kn W0){s1 s2:Bz}{a1 a2 a3:Int}{bR:Bool}:cP W0 130 [N116 a1 a2 s2 bR a3,Nz s1] [] (.bool false) []:=E4 (H7 hk Pv) (show G6 Tryz.prog GL Hr Pv Fb libTab 1000 60 130 [N116 a1 a2 s2 bR a3,Nz s1] [] (ss0 1 [] 0 [] [] [])=some (.bool false,[],SS.mk 0 [] 0 [] [] [] [])by kernel_rfl)<|gdN
theorem sameK4 (hk:Kn W0){s1 s2:Bz}{a1 a2 a3:Int}{bR:Bool}:cP W0 130 [N117 a1 a2 s2 bR a3,Nz s1] [] (.bool false) []:=E4 (H7 hk Pv) (show G6 Tryz.prog GL Hr Pv Fb libTab 1000 60 130 [N117 a1 a2 s2 bR a3,Nz s1] [] (ss0 1 [] 0 [] [] [])=some (.bool false,[],SS.mk 0 [] 0 [] [] [] [])by kernel_rfl)<|gdN
theorem sameK2 (hk:Kn W0){s1:Bz}:cP W0 130 [Nz s1,Nz s1] [] (.bool true) []:=E4 (H7 hk Pv) (show G6 Tryz.prog GL Hr Pv Fb libTab 1000 60 130 [Nz s1,Nz s1] [] (ss0 2 [(false,11)] 0 [] [] [])=some (.bool true,[],SS.mk 0 [] 0 [] [] [] [.eq (B4 .neq (.str s1)<|.str s1) false])by kernel_rfl)<|gdC (obE (by simp[B4,Y2,A3d,]))<|gdN
theorem sameK5 (hk:Kn W0){s1 s2:Bz}(hs:¬s2=s1):cP W0 130 [Nz s2,Nz s1] [] (.bool false) []:=E4 (H7 hk Pv) (show G6 Tryz.prog GL Hr Pv Fb libTab 1000 60 130 [Nz s2,Nz s1] [] (ss0 2 [(true,0)] 0 [] [] [])=some (.bool false,[],SS.mk 0 [] 0 [] [] [] [.eq (B4 .neq (.str s2)<|.str s1) true])by kernel_rfl)<|gdC (obE (by grind[B4,Y2,A3d]))<|gdN
def lit (t:Bz):Prop:=X7 t∧t.length≤200∧Txt (Lib.trimPrefix t [39]) 0
theorem tr39 (t:Bz):Lib.trimPrefix t [39]=t∨(∃r,t=39::r∧Lib.trimPrefix t [39]=r):=by
 cases t with
 |nil=>exact .inl rfl
 |cons c r=>
  by_cases h:c=39;·simp_all[Lib.trimPrefix]
  ·grind[Lib.hasPrefix,Lib.trimPrefix]
theorem bt_mem {s:Bz}{i:Nat}(h:i<s.length):∃b∈s,bt s i=b.toNat:=by refine⟨s[i],List.getElem_mem h,?_⟩;simp[bt,List.getD_eq_getElem?_getD,gGe h]
theorem A7j {s:Bz}(h:∀b∈s,32≤b.toNat∧b.toNat<127):Txt s 0:=Txt.plain (λi hi=>by grind[bt_mem]) s.length 0 Y
theorem Adl {t:Bz}(h1:X7 t)(h2:t.length≤200)(h3:∀b∈t,32≤b.toNat∧b.toNat<127):lit t:=by refine⟨h1,h2,?_⟩;grind[tr39,A7j]
theorem lit_pl {t:Bz}(h:pl t)(hl:t.length≤90):lit t:=Adl (pl_hd h) Y λb hb=>by have:=h b hb;omega
theorem I9 {t:Bz}(h1:X7 t)(h2:(Nat.ble t.length 200&&t.all λb=>Nat.ble 32 b.toNat&&Nat.blt b.toNat 127)=true):lit t:=by simp_all[Adl]
theorem A71 {s:Bz}(h:Txt s 0)(hl:s.length≤40):lit (39::s):=by refine⟨Bv V,by grind,?_⟩;grind[tr39,Lib.trimPrefix,Lib.hasPrefix]
theorem A6x {s:Bz}(h1:X7 s)(h:Txt s 0)(hl:s.length≤40):lit s:=by
 refine⟨h1,Y,?_⟩;rcases tr39 s with h'|⟨r,rfl,h'⟩;·grind
 ·rw[h'];cases h with
  | @step _ n q1 _ _ q4=>
   have:n=1:=by obtain⟨_,q⟩:=q1;simp_all[bt]
   subst this;exact q4.shift (j:=1) 0 Z
theorem sameE (hk:Kn W0){k m e er:Int}{t s:Bz}{b:Bool}(h:k=0∨k=1∨k=3∨k=4∨(k=2∧m=0∧e=0∧b=false∧er=0)):As Tryz.prog W0 130 [Dq k m e t b er,Dq 2 0 0 s false 0] (λv=>∃c,v= .bool c):=by
 rcases h with rfl|rfl|rfl|rfl|⟨rfl,rfl,rfl,rfl,rfl⟩;·exact(As.of<|sameK0 hk).mono λv hv=>⟨_,hv⟩
 ·exact(As.of<|sameK1 hk).mono λv hv=>⟨_,hv⟩
 ·exact(As.of<|sameK3 hk).mono λv hv=>⟨_,hv⟩
 ·exact(As.of<|sameK4 hk).mono λv hv=>⟨_,hv⟩
 ·by_cases hs:t=s;·subst hs;exact(As.of<|sameK2 hk).mono λv hv=>⟨_,hv⟩
  ·exact(As.of<|sameK5 hk hs).mono λv hv=>⟨_,hv⟩
theorem readV (hg:hGr W0 G){s:Bz}(hs:s.length≤10000):As Tryz.prog W0 129 [.str s] (λv=>∃(k m e er err:Int) (t:Bz) (b:Bool),v= .tup [(Dq k m e t b er),.int .i64 err]∧(err=0→X7 s)∧(k=0∨k=1∨k=3∨k=4∨(k=2∧m=0∧e=0∧b=false∧er=0))):=by
 refine goE 129 60 ?_;by_cases hem0:s.length=0
 ·have hem:X7 s:=by grind[Ji]
  refine sO<|mV (v:=.ptr 0 0) Z<|x1 Z<|sq<|sO<|m2 Z Z<|mT Z<|mn<|cT Z<|sO<|mV Z<|Ah hg gN Z<|x1 Z ?_;exact ExM.ret ⟨_,⟨_,_,_,_,_,_,_,Z,(λ_=>hem),.inl Z⟩,A4 O Z Z 100 Z Z⟩
 ·by_cases h61:s.getD 0 0=61;·refine sO<|mV (v:=.ptr 0 0) Z<|x1 Z<|sq<|sO<|m2 Z Z<|mF Z<|mn<|cF Z<|kM<|sq<|sO<|mV Z<|mS (v:=.int .u8 ((s.getD 0 0).toNat:Nat)) (J2 (n:=0) Z Z)<|mBk hg gN (c:=true) Z Z (by simp_all)<|mn<|cT Z<|sO<|mV Z<|Ah hg gN Z<|x1 Z<|ExM.ret ?_;exact⟨_,⟨_,_,_,_,_,_,_,rfl,(λh=>by cases h),.inl rfl⟩,A4 trivial rfl rfl 100 rfl rfl⟩
  ·have h61':X7 s:=λc r e=>by grind
   refine sO<|mV (v:=.ptr 0 0) Z<|x1 Z<|sq<|sO<|m2 Z Z<|mF Z<|mn<|cF Z<|kM<|sq<|sO<|mV Z<|mS (v:=.int .u8 ((s.getD 0 0).toNat:Nat)) (J2 (n:=0) Z Z)<|mBk hg gN (c:=false) Z Z (by rw[bFn];intro e;exact h61<|UInt8.toNat_inj.1 (by grind))<|mn<|cF Z<|kM<|sO<|mV Z ?_;refine C0 hg gN Z Z Z (readE hg Y) ?_ ?_;·rintro _ ⟨pM,pE,pe,rfl⟩;rfl
   rintro _ ⟨pM,pE,pe,rfl⟩;refine m3 Z Z Z<|mV (v:=.ptr 1 0) Z<|Ah hg gN Z<|x1 Z<|sq<|sO<|mV Z ?_;refine mB hg gN Z Z O (λh1=>?_)<|λh1=>?_;·refine mn<|cT Z<|sO<|m2 Z Z<|Ah hg gN Z<|x1 Z<|ExM.ret ?_;exact⟨_,⟨_,_,_,_,_,_,_,Z,(λ_=>h61'),.inr<|.inl Z⟩,A4 O Z Z 100 Z Z⟩
   ·refine mn<|cF Z<|kM<|sO<|mV Z ?_;refine C0 hg gN Z Z Z (foldE hg Y) ?_ ?_;·rintro _ ⟨f,rfl⟩;rfl
    rintro _ ⟨f,rfl⟩;refine x1 Z<|sq<|sO<|mV Z ?_;refine mB hg gN Z Z O (λh2=>?_)<|λh2=>?_
    ·refine mV Z<|mG<|mG<|x1 Z<|cT Z<|sO<|mV Z ?_;refine mB hg gN Z Z O (λh3=>?_)<|λh3=>?_;·refine mV Z<|Ah hg gN Z<|x1 Z<|ExM.ret ?_;exact⟨_,⟨_,_,_,_,_,_,_,Z,(λ_=>h61'),.inr<|.inr<|.inl Z⟩,A4 O Z Z 100 Z Z⟩
     grind
    ·refine m2 Z Z ?_;refine mB hg (gS Z) Z Z O (λh4=>?_) (λh4=>?_)
     ·refine x1 Z<|cT Z<|sO<|mV Z ?_;refine mB hg gN Z Z O (λh5=>?_)<|λh5=>?_;·grind
      ·refine mV Z<|Ah hg gN Z<|x1 Z<|ExM.ret ?_;exact⟨_,⟨_,_,_,_,_,_,_,Z,(λ_=>h61'),.inr<|.inr<|.inl Z⟩,A4 O Z Z 100 Z Z⟩
     ·refine x1 Z<|cF Z<|kM<|sq<|sO<|x1 Z<|bM<|ExM.loop (σ:=Nat) (λj=>⟨.al [(0,.str s),(2,.ptr 0 0),(6,.str f),(7,.int .i64 (j:Nat))],[A48],60⟩) (λj=>j≤10) (λj=>10-j) 1 (Aq 1 Z (Nat.zero_le _) Z Z<|fS<|fzC Z (fvP Z)<|fS<|fI fzN) V ?_;rintro j hj;refine sq<|sO<|mV Z ?_;by_cases hj9:j≤9
      ·refine mT Z<|mn<|cT Z<|kM<|sq<|bM<|sO<|m2 Z Z ?_;refine C0 hg gN Z Z Z (nameE hg) ?_ ?_;·rintro _ ⟨nm,rfl,_,hnm⟩;rfl
       rintro _ ⟨nm,rfl,_,hnm⟩;refine C0 hg gN Z Z Z (foldE hg Y) ?_ ?_;·rintro _ ⟨fm,rfl⟩;rfl
       rintro _ ⟨fm,rfl⟩;refine mB hg gN Z Z O (λh6=>?_)<|λh6=>?_;·refine mn<|cT Z<|sO<|mV Z<|mC Z (A5.pure Z Z (errP hg) _)<|Ah hg gN Z<|x1 Z<|ExM.ret ?_;exact⟨_,⟨_,_,_,_,_,_,_,Z,(λ_=>h61'),.inr<|.inr<|.inr<|.inl Z⟩,A4 O Z Z 100 Z Z⟩
       ·refine mn<|cF Z<|kM<|oM<|mV Z<|mI ((j+1:Nat)) Z<|x1 Z ?_;exact⟨j+1,Y,Y,Aq 1 Z (Nat.zero_le _) Z Z<|fS<|fzC Z (fvP Z)<|fS<|fI fzN⟩
      ·refine mF Z<|mn<|cF Z<|ExM.exit<|sO<|x2 Z Z<|sq<|sO<|mV Z<|mS (v:=.int .u8 ((s.getD 0 0).toNat:Nat)) (J2 (n:=0) Z Z) ?_;refine mB hg gN Z Z O (λh7=>?_) (λh7=>?_)
       ·refine mn<|cT Z<|oM<|mV Z<|mS Z<|x1 Z<|sq<|sO<|mV Z ?_;refine C0 hg gN Z Z Z (Zr hg (by grind)) ?_ ?_;·rintro _ ⟨tb,rfl,_⟩;rfl
        rintro _ ⟨tb,rfl,_⟩;refine x1 Z ?_;cases tb;·refine cT Z<|sO<|mV Z<|Ah hg gN Z<|x1 Z<|ExM.ret ?_;exact⟨_,⟨_,_,_,_,_,_,_,rfl,(λh=>by cases h),.inl rfl⟩,A4 trivial rfl rfl 100 rfl rfl⟩
        ·refine cF Z<|kM<|sO<|m2 Z Z<|Ah hg gN Z<|x1 Z<|ExM.ret ?_;exact⟨_,⟨_,_,_,_,_,_,_,Z,(λ_=>h61'),.inr<|.inr<|.inr<|.inr ⟨Z,Z,Z,Z,Z⟩⟩,A4 O Z Z 100 Z Z⟩
       ·refine mn<|cF Z<|kM<|sq<|sO<|mV Z ?_;refine C0 hg gN Z Z Z (Zr hg Y) ?_ ?_;·rintro _ ⟨tb,rfl,_⟩;rfl
        rintro _ ⟨tb,rfl,_⟩;refine x1 Z ?_;cases tb;·refine cT Z<|sO<|mV Z<|Ah hg gN Z<|x1 Z<|ExM.ret ?_;exact⟨_,⟨_,_,_,_,_,_,_,rfl,(λh=>by cases h),.inl rfl⟩,A4 trivial rfl rfl 100 rfl rfl⟩
        ·refine cF Z<|kM<|sO<|m2 Z Z<|Ah hg gN Z<|x1 Z<|ExM.ret ?_;exact⟨_,⟨_,_,_,_,_,_,_,Z,(λ_=>h61'),.inr<|.inr<|.inr<|.inr ⟨Z,Z,Z,Z,Z⟩⟩,A4 O Z Z 100 Z Z⟩
theorem plain1 (hk:Kn W0){m e:Int}:As Tryz.prog W0 191 [Dq 1 m e [] false 0] (λv=>∃b,v= .bool b):=by have hg:=grK hk;refine goE 191 33 ?_;refine sO<|mV (v:=.ptr 0 0) Z<|x1 Z<|sq<|sO<|m3 Z Z Z<|I1 hg gN (c:=true) Z Z (A5.pure (args:=[Dq 1 m e [] false 0,.int .i64 1]) Z Z (bareK1 hk) _) Z<|x1 Z<|cF Z<|kM<|sq<|sO<|x2 Z Z<|bM<|sq<|sO<|mF Z<|x1 Z<|cF Z<|oM<|mF Z<|x1 Z<|cF Z<|sO<|mT Z<|x1 Z<|cT Z<|sO<|m2 Z Z<|mC Z (show cP W0 205 [.agg [.int .i64 m,.int .i64 e]] _ (.bool<|Ef m e) _ from Q9 hg _)<|x1 Z ?_;exact ExM.ret ⟨_,⟨_,Z⟩,A4 O Z Z 100 Z Z⟩
theorem plain2 (hk:Kn W0){s:Bz}(hs:s.length≤10000):As Tryz.prog W0 191 [Dq 2 0 0 s false 0] (λv=>∃b,v= .bool b∧(b=true→Txt s 0)):=by
 have hg:=grK hk;refine goE 191 33 ?_;refine ExM.seq<|ExM.ops hg<|Ac hg gN (v:=.ptr 0 0) Z Z O<|Ac hg gN Z Z O<|Ba<|ExM.seq<|ExM.seq<|ExM.ops hg<|Ac hg gN Z Z O<|Ac hg gN Z Z O<|Ac hg gN Z Z O<|I1 hg gN (c:=true) Z Z (A5.pure (args:=[Dq 2 0 0 s false 0,.int .i64 2]) Z Z (bareK2 hk) _) Z<|Ac hg gN Z Z O<|Ba<|ExM.condF hg Z<|ExM.skip<|ExM.seq<|ExM.seq<|ExM.ops hg<|Ac hg gN Z Z O<|Ac hg gN Z Z O<|Ba<|ExM.block<|ExM.seq<|ExM.seq<|ExM.ops hg<|mBk hg gN (c:=false) Z Z V<|Ac hg gN Z Z O<|Ba<|ExM.condF hg Z<|ExM.ops hg<|mBk hg gN (c:=false) Z Z V<|Ac hg gN Z Z O<|Ba<|ExM.condF hg Z<|ExM.seq<|ExM.ops hg<|mBk hg gN (c:=false) Z Z V<|Ac hg gN Z Z O ?_;refine mn<|cF Z<|sO<|mT Z<|x1 Z<|cT Z<|sO<|m2 Z Z ?_;refine C0 hg gN Z Z Z (Zr hg Y) ?_ ?_;·rintro _ ⟨tb,rfl,htx⟩;rfl
 rintro _ ⟨tb,rfl,htx⟩;refine x1 Z<|ExM.ret ?_;cases tb;·dsimp only[Ai.then,Ai.inBlock];first|exact⟨_,⟨_,rfl,λ_=>htx rfl⟩,A4 trivial rfl rfl 100 rfl rfl⟩|exact⟨_,⟨false,rfl,λh=>by cases h⟩,A4 trivial rfl rfl 100 rfl rfl⟩
 ·dsimp only[Ai.then,Ai.inBlock];first|exact⟨_,⟨_,rfl,λ_=>htx rfl⟩,A4 trivial rfl rfl 100 rfl rfl⟩|exact⟨_,⟨false,rfl,λh=>by cases h⟩,A4 trivial rfl rfl 100 rfl rfl⟩
theorem right1 (hk:Kn W0){m e:Int}:As Tryz.prog W0 128 [Dq 1 m e [] false 0] (λv=>∃b,v= .bool b):=by
 have hg:=grK hk;refine goE 128 124 ?_;refine sO<|mV (v:=.ptr 0 0) Z<|x1 Z<|sq<|sO<|m2 Z Z<|mT Z<|mn<|cT Z<|sO<|mV Z ?_;refine C0 hg gN Z Z Z (plain1 hk) ?_ ?_;·rintro _ ⟨tb,rfl⟩;rfl
 rintro _ ⟨tb,rfl⟩;refine x1 Z ?_;exact ExM.ret ⟨_,⟨_,Z⟩,A4 O Z Z 100 Z Z⟩
theorem right2 (hk:Kn W0){s:Bz}(hs:s.length≤10000):As Tryz.prog W0 128 [Dq 2 0 0 s false 0] (λv=>∃b,v= .bool b∧(b=true→Txt s 0)):=by
 have hg:=grK hk;refine goE 128 124 ?_;refine sO<|mV (v:=.ptr 0 0) Z<|x1 Z<|sq<|sO<|m2 Z Z<|mT Z<|mn<|cT Z<|sO<|mV Z ?_;refine C0 hg gN Z Z Z (plain2 hk hs) ?_ ?_;·rintro _ ⟨tb,rfl,htx⟩;rfl
 rintro _ ⟨tb,rfl,htx⟩;refine x1 Z ?_;exact ExM.ret ⟨_,⟨_,Z,htx⟩,A4 O Z Z 100 Z Z⟩
theorem told1 (hk:Kn W0){m e:Int}:As Tryz.prog W0 199 [Dq 1 m e [] false 0] (λv=>∃t,v=Dq 2 0 0 t false 0∧pl t∧t.length≤90):=by
 have hg:=grK hk;refine goE 199 27 ?_;refine sO<|mV (v:=.ptr 0 0) Z<|mV (v:=.ptr 1 0) Z<|mn<|sq<|sO<|x2 Z Z<|bM<|sO<|mF Z<|x1 Z<|cF Z<|sO<|mT Z<|x1 Z<|cT Z<|sO<|m2 Z Z ?_;refine C0 hg gN Z Z Z (textE hk) ?_ ?_;·rintro _ ⟨t,er,rfl,ht,htl⟩;rfl
 rintro _ ⟨t,er,rfl,ht,htl⟩;refine mV Z<|x4 Z Z Z Z<|sO<|m2 Z Z<|Ah hg gN Z<|mn ?_;exact ExM.ret ⟨_,⟨t,Z,ht,htl⟩,A4 O Z Z 100 Z Z⟩
theorem Acd (hk:Kn W0){m e:Int}:As Tryz.prog W0 131 [Dq 1 m e [] false 0] (λv=>∃t,v= .str t∧pl t∧t.length≤90):=by
 have hg:=grK hk;refine goE 131 12 ?_;refine sO<|mV (v:=.ptr 0 0) Z<|x1 Z<|sq<|sO<|m2 Z Z<|mF Z<|mn<|cF Z<|kM<|sO<|mV Z ?_;refine C0 hg gN Z Z Z (told1 hk) ?_ ?_;·rintro _ ⟨t,rfl,ht,htl⟩;rfl
 rintro _ ⟨t,rfl,ht,htl⟩;refine x2 Z Z ?_;exact ExM.ret ⟨_,⟨t,Z,ht,htl⟩,A4 O Z Z 100 Z Z⟩
theorem text1 (hk:Kn W0){m e:Int}:As Tryz.prog W0 89 [Dq 1 m e [] false 0] (λv=>∃(t:Bz) (er:Int),v= .tup [.str t,.int .i64 er]∧lit t):=by
 have hg:=grK hk;refine goE 89 88 ?_;refine ExM.seq<|ExM.ops hg<|Ac hg gN (v:=.ptr 0 0) Z Z O<|Ac hg gN Z Z O<|Ac hg gN Z Z O<|Ba<|ExM.seq<|ExM.seq<|ExM.ops hg<|Ac hg gN Z Z O ?_;refine C0 hg gN Z Z Z (right1 hk) ?_ ?_;·rintro _ ⟨tb,rfl⟩;rfl
 rintro _ ⟨tb,rfl⟩;refine x1 Z ?_;cases tb;·refine cT Z<|sO<|x2 Z Z<|ExM.ret ?_;exact⟨_,⟨[],30,Z,I9 Ji V⟩,A4 O Z Z 100 Z Z⟩
 ·refine cF Z<|kM<|sq<|sO<|m2 Z Z<|mF Z<|mn<|cF Z<|kM<|sq<|sO<|m2 Z Z<|mF Z<|mn<|cF Z<|kM<|sq<|sO<|m2 Z Z<|mT Z<|mn<|cT Z<|sO<|mV Z ?_;refine C0 hg gN Z Z Z (Acd hk) ?_ ?_;·rintro _ ⟨t,rfl,ht,htl⟩;rfl
  rintro _ ⟨t,rfl,ht,htl⟩;refine x2 Z Z ?_;exact ExM.ret ⟨_,⟨t,0,Z,lit_pl ht htl⟩,A4 O Z Z 100 Z Z⟩
theorem text2 (hk:Kn W0){s:Bz}(hs:s.length≤40):As Tryz.prog W0 89 [Dq 2 0 0 s false 0] (λv=>∃(t:Bz) (er:Int),v= .tup [.str t,.int .i64 er]∧lit t):=by
 have hg:=grK hk;refine goE 89 88 ?_;refine ExM.seq<|ExM.ops hg<|Ac hg gN (v:=.ptr 0 0) Z Z O<|Ac hg gN Z Z O<|Ac hg gN Z Z O<|Ba<|ExM.seq<|ExM.seq<|ExM.ops hg<|Ac hg gN Z Z O ?_;refine C0 hg gN Z Z Z (right2 hk Y) ?_ ?_;·rintro _ ⟨tb,rfl,htx⟩;rfl
 rintro _ ⟨tb,rfl,htx⟩;cases tb;·refine x1 Z<|cT Z<|sO<|x2 Z Z<|ExM.ret ?_;first|exact⟨_,⟨[],30,rfl,I9 Ji V⟩,A4 trivial rfl rfl 100 rfl rfl⟩|exact⟨_,⟨s,0,rfl,A6x (herr bY129) (htx rfl) hs⟩,A4 trivial rfl rfl 100 rfl rfl⟩|exact⟨_,⟨39::s,0,rfl,A71 (htx rfl) hs⟩,A4 trivial rfl rfl 100 rfl rfl⟩
 ·refine x1 Z<|cF Z<|kM<|sq<|sO<|m2 Z Z<|mF Z<|mn<|cF Z<|kM<|sq<|sO<|m2 Z Z<|mT Z<|mn<|cT Z<|sO<|m2 Z Z ?_;refine C0 hg gN Z Z Z (readV hg (s:=s) Y) ?_ ?_;·rintro _ ⟨k,m,e,er,err,t,b,rfl,herr,hsh⟩;rfl
  rintro _ ⟨k,m,e,er,err,t,b,rfl,herr,hsh⟩;refine m3 Z Z Z<|mV (v:=.ptr 1 0) Z<|Ah hg gN Z<|x1 Z<|sq<|sO<|mV Z ?_;refine mB hg gN Z Z O (λh1=>?_)<|λh1=>?_
  ·refine m3 Z Z Z ?_;refine C0 hg (gS Z) Z Z Z (sameE hk hsh) ?_ ?_;·rintro _ ⟨c,rfl⟩;rfl
   rintro _ ⟨c,rfl⟩;refine x1 Z ?_;cases c;·refine cF Z<|kM<|sO<|m2 Z Z<|mS Z<|x2 Z Z<|ExM.ret ?_;first|exact⟨_,⟨[],30,rfl,I9 Ji V⟩,A4 trivial rfl rfl 100 rfl rfl⟩|exact⟨_,⟨s,0,rfl,A6x (herr (by grind)) (htx rfl) hs⟩,A4 trivial rfl rfl 100 rfl rfl⟩|exact⟨_,⟨39::s,0,rfl,A71 (htx rfl) hs⟩,A4 trivial rfl rfl 100 rfl rfl⟩
   ·refine cT Z<|sO<|x4 Z Z Z Z<|ExM.ret ?_;first|exact⟨_,⟨[],30,rfl,I9 Ji V⟩,A4 trivial rfl rfl 100 rfl rfl⟩|exact⟨_,⟨s,0,rfl,A6x (herr (by grind)) (htx rfl) hs⟩,A4 trivial rfl rfl 100 rfl rfl⟩|exact⟨_,⟨39::s,0,rfl,A71 (htx rfl) hs⟩,A4 trivial rfl rfl 100 rfl rfl⟩
  ·refine mV Z<|mG<|mG<|mG<|x1 Z<|cF Z<|kM<|sO<|m2 Z Z<|mS Z<|x2 Z Z<|ExM.ret ?_;first|exact⟨_,⟨[],30,rfl,I9 Ji V⟩,A4 trivial rfl rfl 100 rfl rfl⟩|exact⟨_,⟨s,0,rfl,A6x (herr bY129) (htx rfl) hs⟩,A4 trivial rfl rfl 100 rfl rfl⟩|exact⟨_,⟨39::s,0,rfl,A71 (htx rfl) hs⟩,A4 trivial rfl rfl 100 rfl rfl⟩
def valQ (v:AVal):Prop:=v=Dq 0 0 0 [] false 0∨(∃m e,v=Dq 1 m e [] false 0)∨(∃s:Bz,v=Dq 2 0 0 s false 0∧s.length≤40)∨(∃b,v=Dq 3 0 0 [] b 0)∨(∃n:Nat,v=Dq 4 0 0 [] false (n:Nat)∧1≤n∧n≤9)
theorem A2z {v:AVal}(h:valQ v):blw 0 v=true:=by rcases h with rfl|⟨m,e,rfl⟩|⟨s,rfl,_⟩|⟨b,rfl⟩|⟨n,rfl,_⟩<;>rfl
theorem valE (hk:Kn W0){K M E:Int}{s:Bz}{b:Bool}(hK:i64 K)(hM:i64 M)(hE:i64 E)(hs:s.length≤150000000000000):As Tryz.prog W0 90 [A1x K M E s b] valQ:=by
 have hg:=grK hk;have hk5:=Bm (c:=K) (n:=5) V;have hk9:=Bm (c:=M) (n:=9) V;have k1:=R8 hg (c:=K) (n:=5) hK.1 hK.2 V;have hc:B8 K 5=1∨B8 K 5=0∨B8 K 5=2∨B8 K 5=3∨B8 K 5=4:=Y;rcases hc with h|h|h|h|h;·obtain⟨m,e,c⟩:=ValNum hk (s:=s) (b:=b) hK hM hE h;exact(As.of c).mono λv hv=>.inr<|.inl ⟨m,e,hv⟩
 ·rw[h]at k1;refine goE 90 60 ?_;refine sO<|mV (v:=.ptr 0 0) Z<|mV (v:=.ptr 1 0) Z<|mn<|sq<|sO<|m2 Z Z<|mC Z (A5.pure Z Z k1 _)<|mn<|bM<|sO<|mF Z<|x1 Z<|cF Z<|sO<|mF Z<|x1 Z<|cF Z<|sO<|mF Z<|x1 Z<|cF Z<|sO<|mF Z<|x1 Z<|cF Z<|kM<|sO<|mV Z<|Ah hg gN Z<|mn ?_;exact ExM.ret ⟨_,.inl Z,A4 O Z Z 100 Z Z⟩
 ·rw[h]at k1;refine goE 90 60 ?_;refine sO<|mV (v:=.ptr 0 0) Z<|mV (v:=.ptr 1 0) Z<|mn<|sq<|sO<|m2 Z Z<|mC Z (A5.pure Z Z k1 _)<|mn<|bM<|sO<|mF Z<|x1 Z<|cF Z<|sO<|mT Z<|x1 Z<|cT Z<|sO<|m2 Z Z ?_;refine C0 hg gN Z Z Z (textOfE hg hs) ?_ ?_;·rintro _ ⟨t,rfl,ht⟩;rfl
  rintro _ ⟨t,rfl,ht⟩;refine mV Z<|Ah hg gN Z<|mn ?_;exact ExM.ret ⟨_,.inr<|.inr<|.inl ⟨t,Z,ht⟩,A4 O Z Z 100 Z Z⟩
 ·rw[h]at k1;refine goE 90 60 ?_;refine sO<|mV (v:=.ptr 0 0) Z<|mV (v:=.ptr 1 0) Z<|mn<|sq<|sO<|m2 Z Z<|mC Z (A5.pure Z Z k1 _)<|mn<|bM<|sO<|mF Z<|x1 Z<|cF Z<|sO<|mF Z<|x1 Z<|cF Z<|sO<|mT Z<|x1 Z<|cT Z<|sO<|m3 Z Z Z<|Ah hg gN Z<|mn ?_;exact ExM.ret ⟨_,.inr<|.inr<|.inr<|.inl ⟨b,Z⟩,A4 O Z Z 100 Z Z⟩
 ·rw[h]at k1;refine goE 90 60 ?_;refine sO<|mV (v:=.ptr 0 0) Z<|mV (v:=.ptr 1 0) Z<|mn<|sq<|sO<|m2 Z Z<|mC Z (A5.pure Z Z k1 _)<|mn<|bM<|sO<|mF Z<|x1 Z<|cF Z<|sO<|mF Z<|x1 Z<|cF Z<|sO<|mF Z<|x1 Z<|cF Z<|sO<|mT Z<|x1 Z<|cT Z<|sO<|m3 Z Z Z<|mC Z (pickC53 hg (c:=M) (n:=9) hM.1 hM.2 V _)<|mI ((1+B8 M 9:Nat)) Z<|mV Z<|Ah hg gN Z<|mn ?_;exact ExM.ret ⟨_,.inr<|.inr<|.inr<|.inr ⟨1+B8 M 9,Z,Y,Y⟩,A4 O Z Z 100 Z Z⟩
theorem text0 (hk:Kn W0):cP W0 89 [Dq 0 0 0 [] false 0] [] (.tup [.str [],.int .i64 0]) []:=Gy hk (d:=60) (show run 60 89 [Dq 0 0 0 [] false 0] []=some (.tup [.str [],.int .i64 0],[])by kernel_rfl) Am Am []
theorem text3t (hk:Kn W0):cP W0 89 [Dq 3 0 0 [] true 0] [] (.tup [.str [84,82,85,69],.int .i64 0]) []:=Gy hk (d:=60) (show run 60 89 [Dq 3 0 0 [] true 0] []=some (.tup [.str [84,82,85,69],.int .i64 0],[])by kernel_rfl) Am Am []
theorem text3f (hk:Kn W0):cP W0 89 [Dq 3 0 0 [] false 0] [] (N118) []:=Gy hk (d:=60) (show run 60 89 [Dq 3 0 0 [] false 0] []=some (N118,[])by kernel_rfl) Am Am []
theorem text41 (hk:Kn W0):cP W0 89 [Dq 4 0 0 [] false 1] [] (N119) []:=Gy hk (d:=60) (show run 60 89 [Dq 4 0 0 [] false 1] []=some (N119,[])by kernel_rfl) Am Am []
theorem text42 (hk:Kn W0):cP W0 89 [Dq 4 0 0 [] false 2] [] (N120) []:=Gy hk (d:=60) (show run 60 89 [Dq 4 0 0 [] false 2] []=some (N120,[])by kernel_rfl) Am Am []
theorem text43 (hk:Kn W0):cP W0 89 [Dq 4 0 0 [] false 3] [] (N121) []:=Gy hk (d:=60) (show run 60 89 [Dq 4 0 0 [] false 3] []=some (N121,[])by kernel_rfl) Am Am []
theorem text44 (hk:Kn W0):cP W0 89 [Dq 4 0 0 [] false 4] [] (N122) []:=Gy hk (d:=60) (show run 60 89 [Dq 4 0 0 [] false 4] []=some (N122,[])by kernel_rfl) Am Am []
theorem text45 (hk:Kn W0):cP W0 89 [Dq 4 0 0 [] false 5] [] (N123) []:=Gy hk (d:=60) (show run 60 89 [Dq 4 0 0 [] false 5] []=some (N123,[])by kernel_rfl) Am Am []
theorem text46 (hk:Kn W0):cP W0 89 [Dq 4 0 0 [] false 6] [] (N124) []:=Gy hk (d:=60) (show run 60 89 [Dq 4 0 0 [] false 6] []=some (N124,[])by kernel_rfl) Am Am []
theorem text47 (hk:Kn W0):cP W0 89 [Dq 4 0 0 [] false 7] [] (.tup [.str [35,78,47,65],.int .i64 0]) []:=Gy hk (d:=60) (show run 60 89 [Dq 4 0 0 [] false 7] []=some (.tup [.str [35,78,47,65],.int .i64 0],[])by kernel_rfl) Am Am []
theorem text48 (hk:Kn W0):cP W0 89 [Dq 4 0 0 [] false 8] [] (N125) []:=Gy hk (d:=60) (show run 60 89 [Dq 4 0 0 [] false 8] []=some (N125,[])by kernel_rfl) Am Am []
theorem text49 (hk:Kn W0):cP W0 89 [Dq 4 0 0 [] false 9] [] (N126) []:=Gy hk (d:=60) (show run 60 89 [Dq 4 0 0 [] false 9] []=some (N126,[])by kernel_rfl) Am Am []
theorem textV (hk:Kn W0){v:AVal}(h:valQ v):As Tryz.prog W0 89 [v] (λv=>∃(t:Bz) (er:Int),v= .tup [.str t,.int .i64 er]∧lit t):=by
 rcases h with rfl|⟨m,e,rfl⟩|⟨s,rfl,hs⟩|⟨b,rfl⟩|⟨n,rfl,h1,h2⟩;·exact(As.of<|text0 hk).mono λv hv=>⟨_,_,hv,I9 Ji V⟩
 ·exact text1 hk
 ·exact text2 hk Y
 ·cases b;·exact(As.of<|text3f hk).mono λv hv=>⟨_,_,hv,I9 (Bv V) V⟩
  ·exact(As.of<|text3t hk).mono λv hv=>⟨_,_,hv,I9 (Bv V) V⟩
 ·have:n=1∨n=2∨n=3∨n=4∨n=5∨n=6∨n=7∨n=8∨n=9:=by omega
  rcases this with rfl|rfl|rfl|rfl|rfl|rfl|rfl|rfl|rfl;·exact(As.of<|text41 hk).mono λv hv=>⟨_,_,hv,I9 (Bv V) V⟩
  ·exact(As.of<|text42 hk).mono λv hv=>⟨_,_,hv,I9 (Bv V) V⟩
  ·exact(As.of<|text43 hk).mono λv hv=>⟨_,_,hv,I9 (Bv V) V⟩
  ·exact(As.of<|text44 hk).mono λv hv=>⟨_,_,hv,I9 (Bv V) V⟩
  ·exact(As.of<|text45 hk).mono λv hv=>⟨_,_,hv,I9 (Bv V) V⟩
  ·exact(As.of<|text46 hk).mono λv hv=>⟨_,_,hv,I9 (Bv V) V⟩
  ·exact(As.of<|text47 hk).mono λv hv=>⟨_,_,hv,I9 (Bv V) V⟩
  ·exact(As.of<|text48 hk).mono λv hv=>⟨_,_,hv,I9 (Bv V) V⟩
  ·exact(As.of<|text49 hk).mono λv hv=>⟨_,_,hv,I9 (Bv V) V⟩
theorem Adf (hk:Kn W0){K M E:Int}{s:Bz}{b:Bool}(hK:i64 K)(hM:i64 M)(hE:i64 E)(hs:s.length≤150000000000000):As Tryz.prog W0 56 [A1x K M E s b] (λv=>∃t:Bz,v= .str t∧lit t∧t≠[]):=by
 have hg:=grK hk;refine goE 56 14 ?_;refine sO<|mV (v:=.ptr 0 0) Z<|x1 Z<|sO<|mV Z ?_;refine C0 hg gN Z Z Z (valE hk hK hM hE hs) ?_ ?_;·grind[A2z]
 rintro _ hv;refine C0 hg gN Z Z (by show cond (blw 0 _) true false=true;rw[A2z hv];rfl) (textV hk hv) ?_ ?_;·rintro _ ⟨t,er,rfl,ht⟩;rfl
 rintro _ ⟨t,er,rfl,ht⟩;refine mV Z<|x4 Z Z Z Z<|sq<|sO<|mV Z ?_;refine mB hg gN Z Z O (λh1=>?_)<|λh1=>?_;·refine mn<|cT Z<|sO<|x1 Z ?_;exact ExM.ret ⟨_,⟨_,Z,I9 (Bv V) V,V⟩,A4 O Z Z 100 Z Z⟩
 ·refine mn<|cF Z<|kM<|sO<|x2 Z Z ?_;exact ExM.ret ⟨_,⟨t,Z,ht,λe=>by grind⟩,A4 trivial rfl rfl 100 rfl rfl⟩
end Go.Abs
namespace Go.Abs
open Go.Proofs Go.RowKit
set_option maxRecDepth 10000000
variable {W0 : World} {G : List (Nat × AVal)}
def cB (cl:Nat):UInt8:=UInt8.ofNat<|65+cl
def dB (rw:Nat):UInt8:=UInt8.ofNat<|49+rw
theorem cB_nat {cl:Nat}(h:cl<5):(cB cl).toNat=65+cl:=UInt8.toNat_ofNat_of_lt' (by grind)
theorem dB_nat {rw:Nat}(h:rw<8):(dB rw).toNat=49+rw:=UInt8.toNat_ofNat_of_lt' (by grind)
theorem dg125_0 (hk:Kn W0):cP W0 141 [.int .i64 1] [] (.str [49]) []:=cK hk
theorem it215_0 (hk:Kn W0):cP W0 168 [.int .i64 1] [] (.str [49]) []:=cK hk
theorem at237_0 (hk:Kn W0):cP W0 167 [.str [49]] [] (.tup [.int .i64 1,.nilIf]) []:=cK hk
theorem dg125_1 (hk:Kn W0):cP W0 141 [.int .i64 2] [] (.str [50]) []:=cK hk
theorem it215_1 (hk:Kn W0):cP W0 168 [.int .i64 2] [] (.str [50]) []:=cK hk
theorem at237_1 (hk:Kn W0):cP W0 167 [.str [50]] [] (.tup [.int .i64 2,.nilIf]) []:=cK hk
theorem dg125_2 (hk:Kn W0):cP W0 141 [.int .i64 3] [] (.str [51]) []:=cK hk
theorem it215_2 (hk:Kn W0):cP W0 168 [.int .i64 3] [] (.str [51]) []:=cK hk
theorem at237_2 (hk:Kn W0):cP W0 167 [.str [51]] [] (.tup [.int .i64 3,.nilIf]) []:=cK hk
theorem dg125_3 (hk:Kn W0):cP W0 141 [.int .i64 4] [] (.str [52]) []:=cK hk
theorem it215_3 (hk:Kn W0):cP W0 168 [.int .i64 4] [] (.str [52]) []:=cK hk
theorem at237_3 (hk:Kn W0):cP W0 167 [.str [52]] [] (.tup [.int .i64 4,.nilIf]) []:=cK hk
theorem dg125_4 (hk:Kn W0):cP W0 141 [.int .i64 5] [] (.str [53]) []:=cK hk
theorem it215_4 (hk:Kn W0):cP W0 168 [.int .i64 5] [] (.str [53]) []:=cK hk
theorem at237_4 (hk:Kn W0):cP W0 167 [.str [53]] [] (.tup [.int .i64 5,.nilIf]) []:=cK hk
theorem dg125_5 (hk:Kn W0):cP W0 141 [.int .i64 6] [] (.str [54]) []:=cK hk
theorem it215_5 (hk:Kn W0):cP W0 168 [.int .i64 6] [] (.str [54]) []:=cK hk
theorem at237_5 (hk:Kn W0):cP W0 167 [.str [54]] [] (.tup [.int .i64 6,.nilIf]) []:=cK hk
theorem dg125_6 (hk:Kn W0):cP W0 141 [.int .i64 7] [] (.str [55]) []:=cK hk
theorem it215_6 (hk:Kn W0):cP W0 168 [.int .i64 7] [] (.str [55]) []:=cK hk
theorem at237_6 (hk:Kn W0):cP W0 167 [.str [55]] [] (.tup [.int .i64 7,.nilIf]) []:=cK hk
theorem dg125_7 (hk:Kn W0):cP W0 141 [.int .i64 8] [] (.str [56]) []:=cK hk
theorem it215_7 (hk:Kn W0):cP W0 168 [.int .i64 8] [] (.str [56]) []:=cK hk
theorem at237_7 (hk:Kn W0):cP W0 167 [.str [56]] [] (.tup [.int .i64 8,.nilIf]) []:=cK hk
theorem cl124_0 (hk:Kn W0):cP W0 140 [.int .i64 0] [] (.tup [.str [65],.int .i64 0]) []:=cK hk
theorem rc233_0 (hk:Kn W0):cP W0 163 [.str [65]] [] (.tup z5L) []:=cK hk
theorem cl124_1 (hk:Kn W0):cP W0 140 [.int .i64 1] [] (.tup [.str [66],.int .i64 0]) []:=cK hk
theorem rc233_1 (hk:Kn W0):cP W0 163 [.str [66]] [] (.tup Aca) []:=cK hk
theorem cl124_2 (hk:Kn W0):cP W0 140 [.int .i64 2] [] (.tup [.str [67],.int .i64 0]) []:=cK hk
theorem rc233_2 (hk:Kn W0):cP W0 163 [.str [67]] [] (.tup A9f) []:=cK hk
theorem cl124_3 (hk:Kn W0):cP W0 140 [.int .i64 3] [] (.tup [.str [68],.int .i64 0]) []:=cK hk
theorem rc233_3 (hk:Kn W0):cP W0 163 [.str [68]] [] (.tup Aas) []:=cK hk
theorem cl124_4 (hk:Kn W0):cP W0 140 [.int .i64 4] [] (.tup [.str [69],.int .i64 0]) []:=cK hk
theorem rc233_4 (hk:Kn W0):cP W0 163 [.str [69]] [] (.tup A9l) []:=cK hk
theorem is191_1 (hk:Kn W0):cP W0 207 [.str [83]] [] (.bool true) []:=cK hk
theorem A0w (hk:Kn W0):cP W0 138 [.str [83]] [] (.bool true) []:=cK hk
theorem Vf (hk:Kn W0):cP W0 67 [.str [83]] [] (.bool true) []:=cK hk
theorem A15 (hk:Kn W0):cP W0 229 [.str [83]] [] (.bool true) []:=cK hk
theorem is191_2 (hk:Kn W0):cP W0 207 [.str [84,119,111,32,120]] [] (.bool true) []:=cK hk
theorem Zp (hk:Kn W0):cP W0 138 [.str [84,119,111,32,120]] [] (.bool false) []:=cK hk
theorem Vj (hk:Kn W0):cP W0 67 [.str [84,119,111,32,120]] [] (.bool true) []:=cK hk
theorem is191_3 (hk:Kn W0):cP W0 207 [.str [116,104,105,114,100]] [] (.bool true) []:=cK hk
theorem A17 (hk:Kn W0):cP W0 138 [.str [116,104,105,114,100]] [] (.bool true) []:=cK hk
theorem Vr (hk:Kn W0):cP W0 67 [.str [116,104,105,114,100]] [] (.bool true) []:=cK hk
theorem A10 (hk:Kn W0):cP W0 229 [.str [116,104,105,114,100]] [] (.bool true) []:=cK hk
theorem is191_0 (hk:Kn W0):cP W0 207 [.str []] [] (.bool false) []:=cK hk
theorem Adc (hk:Kn W0):cP W0 139 [.str [84,119,111,32,120]] [] (.str [39,84,119,111,32,120,39]) []:=cK hk
theorem A02 (hk:Kn W0):cP W0 229 [.str [39,84,119,111,32,120,39]] [] (.bool false) []:=cK hk
theorem Ni (hk:Kn W0){rw:Nat}(h:rw<8):cP W0 141 [.int .i64<|IntKind.i64.wrap<|(rw:Nat)+1] [] (.str [dB rw]) []:=by
 have:rw=0∨rw=1∨rw=2∨rw=3∨rw=4∨rw=5∨rw=6∨rw=7:=Y;rcases this with rfl|rfl|rfl|rfl|rfl|rfl|rfl|rfl;·exact dg125_0 hk
 ·exact dg125_1 hk
 ·exact dg125_2 hk
 ·exact dg125_3 hk
 ·exact dg125_4 hk
 ·exact dg125_5 hk
 ·exact dg125_6 hk
 ·exact dg125_7 hk
theorem Nl (hk:Kn W0){rw:Nat}(h:rw<8):cP W0 168 [.int .i64<|(rw+1:Nat)] [] (.str [dB rw]) []:=by
 have:rw=0∨rw=1∨rw=2∨rw=3∨rw=4∨rw=5∨rw=6∨rw=7:=Y;rcases this with rfl|rfl|rfl|rfl|rfl|rfl|rfl|rfl;·exact it215_0 hk
 ·exact it215_1 hk
 ·exact it215_2 hk
 ·exact it215_3 hk
 ·exact it215_4 hk
 ·exact it215_5 hk
 ·exact it215_6 hk
 ·exact it215_7 hk
theorem Nq (hk:Kn W0){rw:Nat}(h:rw<8):cP W0 167 [.str [dB rw]] [] (.tup [.int .i64<|(rw+1:Nat),.nilIf]) []:=by
 have:rw=0∨rw=1∨rw=2∨rw=3∨rw=4∨rw=5∨rw=6∨rw=7:=Y;rcases this with rfl|rfl|rfl|rfl|rfl|rfl|rfl|rfl;·exact at237_0 hk
 ·exact at237_1 hk
 ·exact at237_2 hk
 ·exact at237_3 hk
 ·exact at237_4 hk
 ·exact at237_5 hk
 ·exact at237_6 hk
 ·exact at237_7 hk
theorem Np (hk:Kn W0){cl:Nat}(h:cl<5):cP W0 140 [.int .i64 (cl:Nat)] [] (.tup [.str [cB cl],.int .i64 0]) []:=by
 have:cl=0∨cl=1∨cl=2∨cl=3∨cl=4:=Y;rcases this with rfl|rfl|rfl|rfl|rfl;·exact cl124_0 hk
 ·exact cl124_1 hk
 ·exact cl124_2 hk
 ·exact cl124_3 hk
 ·exact cl124_4 hk
theorem Me (hk:Kn W0){cl:Nat}(h:cl<5):cP W0 163 [.str [cB cl]] [] (.tup [.int .i64 (cl:Nat),.int .i64 0]) []:=by
 have:cl=0∨cl=1∨cl=2∨cl=3∨cl=4:=Y;rcases this with rfl|rfl|rfl|rfl|rfl;·exact rc233_0 hk
 ·exact rc233_1 hk
 ·exact rc233_2 hk
 ·exact rc233_3 hk
 ·exact rc233_4 hk
def KF58 :AFn:=⟨(sQ [yV 1<|.box 95 0,yV 2<|.move<|.val<|.bool false]<|.seq (sQ [yV 3<|.fieldAddr 5 1,yV 4<|.load 1 false 3]<|.cond 4 (sQ [yV 5<|.load 6 true 1,yV 6<|.build z6L [(5,1,(.val<|.bool true))],yV 7<|.eqs false (.cons 0 1 false .s<|.cons 1 1 false .i<|.cons 2 1 false .i<|.cons 3 1 false .b<|.cons 4 1 false .b<|.cons 5 1 false .b .nil) 5 6,yM 2 7] .ret) .skip)<|sQ [yV 8<|.fieldAddr 0 1,yV 9<|.load 1 false 8,yV 10<|.bin .eql none 9<|.val<|.str [],yM 11 10,yF 12 11<|.fieldAddr 0 1,yF 13 11<|.load 1 false 12,yF 14 11<|kF 67 [13],yV 15<|.pick 11 (.val<|.bool true) 14,yM 16 15,yT 17 16<|.fieldAddr 1 1,yT 18 16<|.load 1 false 17,yT 19 16<|.bin .geq none 18<|vI 0,yV 20<|.pick 16 19<|.val<|.bool false,yM 21 20,yT 22 21<|.fieldAddr 1 1,yT 23 21<|.load 1 false 22,yT 24 21<|.bin .lss none 23<|vI 200,yV 25<|.pick 21 24<|.val<|.bool false,yM 26 25,yT 27 26<|.fieldAddr 2 1,yT 28 26<|.load 1 false 27,yT 29 26<|.bin .geq none 28<|vI 0,yV 30<|.pick 26 29<|.val<|.bool false,yM 31 30,yT 32 31<|.fieldAddr 2 1,yT 33 31<|.load 1 false 32,yT 34 31<|.bin .lss none 33<|vI 52,yV 35<|.pick 31 34<|.val<|.bool false,yM 2 35] .ret),[2],36⟩
theorem KG58 :Gw Tryz.prog 37=some KF58:=Am
theorem P3 (hk:Kn W0){r c:Int}{fr fc:Bool}(hr:0≤r∧r<8)(hc:0≤c∧c<5):cP W0 37 [.agg [.str [],.int .i64 r,.int .i64 c,.bool fr,.bool fc,.bool false]] [] (.bool true) []:=by have hg:=grK hk;refine A5.of_fnM KG58 Ax Z ?_;refine sO<|mV (v:=.ptr 0 0) Z<|x1 Z<|sq<|sO<|x2 Z Z<|cF Z<|kM<|sO<|m2 Z Z<|mBk hg gN (c:=true) Z Z Z<|mV Z<|mG<|mG<|mG<|m4 Z Z Z Z<|mT Z<|m4 Z Z Z Z<|mT Z<|m4 Z Z Z Z<|mT Z<|m4 Z Z Z Z<|mT Z<|x2 Z Z ?_;exact ExM.ret<|pL
theorem Q4 (hk:Kn W0){r c:Int}{fr fc:Bool}(hr:0≤r∧r<8)(hc:0≤c∧c<5):cP W0 137 [.agg [.str [],.int .i64 r,.int .i64 c,.bool fr,.bool fc,.bool false]] [] (.bool true) []:=by have hg:=grK hk;refine goM 137 58 ?_;refine sO<|mV (v:=.ptr 0 0) Z<|x1 Z<|sq<|sO<|x2 Z Z<|cF Z<|kM<|sO<|m2 Z Z<|I1 hg gN (c:=false) Z Z (A5.pure Z Z (is191_0 hk) _) Z<|x1 Z<|sO<|m4 Z Z Z Z<|mBk hg (gS Z) (c:=true) Z Z Z<|m4 Z Z Z Z<|mT Z<|m4 Z Z Z Z<|mT Z<|m4 Z Z Z Z<|mT Z<|m4 Z Z Z Z<|mT Z<|x2 Z Z ?_;exact ExM.ret<|pL
theorem P6 (hk:Kn W0){r c:Int}{fr fc:Bool}(hr:0≤r∧r<8)(hc:0≤c∧c<5):cP W0 37 [.agg [.str [83],.int .i64 r,.int .i64 c,.bool fr,.bool fc,.bool false]] [] (.bool true) []:=by have hg:=grK hk;refine A5.of_fnM KG58 Ax Z ?_;refine sO<|mV (v:=.ptr 0 0) Z<|x1 Z<|sq<|sO<|x2 Z Z<|cF Z<|kM<|sO<|m2 Z Z<|mBk hg gN (c:=false) Z Z Z<|m3 Z Z Z<|I1 hg (gS Z) (c:=true) Z Z (A5.pure Z Z (Vf hk) _) Z<|m4 Z Z Z Z<|mT Z<|m4 Z Z Z Z<|mT Z<|m4 Z Z Z Z<|mT Z<|m4 Z Z Z Z<|mT Z<|x2 Z Z ?_;exact ExM.ret<|pL
theorem Qg (hk:Kn W0){r c:Int}{fr fc:Bool}(hr:0≤r∧r<8)(hc:0≤c∧c<5):cP W0 137 [.agg [.str [83],.int .i64 r,.int .i64 c,.bool fr,.bool fc,.bool false]] [] (.bool true) []:=by have hg:=grK hk;refine goM 137 58 ?_;refine sO<|mV (v:=.ptr 0 0) Z<|x1 Z<|sq<|sO<|x2 Z Z<|cF Z<|kM<|sO<|m2 Z Z<|I1 hg gN (c:=true) Z Z (A5.pure Z Z (is191_1 hk) _) Z<|x1 Z<|sO<|m2 Z Z<|mG<|mG<|mG<|m4 Z Z Z Z<|mT Z<|m4 Z Z Z Z<|mT Z<|m4 Z Z Z Z<|mT Z<|m4 Z Z Z Z<|mT Z<|x2 Z Z ?_;exact ExM.ret<|pL
theorem P8 (hk:Kn W0){r c:Int}{fr fc:Bool}(hr:0≤r∧r<8)(hc:0≤c∧c<5):cP W0 37 [.agg [.str [84,119,111,32,120],.int .i64 r,.int .i64 c,.bool fr,.bool fc,.bool false]] [] (.bool true) []:=by have hg:=grK hk;refine A5.of_fnM KG58 Ax Z ?_;refine sO<|mV (v:=.ptr 0 0) Z<|x1 Z<|sq<|sO<|x2 Z Z<|cF Z<|kM<|sO<|m2 Z Z<|mBk hg gN (c:=false) Z Z Z<|m3 Z Z Z<|I1 hg (gS Z) (c:=true) Z Z (A5.pure Z Z (Vj hk) _) Z<|m4 Z Z Z Z<|mT Z<|m4 Z Z Z Z<|mT Z<|m4 Z Z Z Z<|mT Z<|m4 Z Z Z Z<|mT Z<|x2 Z Z ?_;exact ExM.ret<|pL
theorem Qv (hk:Kn W0){r c:Int}{fr fc:Bool}(hr:0≤r∧r<8)(hc:0≤c∧c<5):cP W0 137 [.agg [.str [84,119,111,32,120],.int .i64 r,.int .i64 c,.bool fr,.bool fc,.bool false]] [] (.bool true) []:=by have hg:=grK hk;refine goM 137 58 ?_;refine sO<|mV (v:=.ptr 0 0) Z<|x1 Z<|sq<|sO<|x2 Z Z<|cF Z<|kM<|sO<|m2 Z Z<|I1 hg gN (c:=true) Z Z (A5.pure Z Z (is191_2 hk) _) Z<|x1 Z<|sO<|m2 Z Z<|mG<|mG<|mG<|m4 Z Z Z Z<|mT Z<|m4 Z Z Z Z<|mT Z<|m4 Z Z Z Z<|mT Z<|m4 Z Z Z Z<|mT Z<|x2 Z Z ?_;exact ExM.ret<|pL
theorem P0 (hk:Kn W0){r c:Int}{fr fc:Bool}(hr:0≤r∧r<8)(hc:0≤c∧c<5):cP W0 37 [.agg [.str [116,104,105,114,100],.int .i64 r,.int .i64 c,.bool fr,.bool fc,.bool false]] [] (.bool true) []:=by have hg:=grK hk;refine A5.of_fnM KG58 Ax Z ?_;refine sO<|mV (v:=.ptr 0 0) Z<|x1 Z<|sq<|sO<|x2 Z Z<|cF Z<|kM<|sO<|m2 Z Z<|mBk hg gN (c:=false) Z Z Z<|m3 Z Z Z<|I1 hg (gS Z) (c:=true) Z Z (A5.pure Z Z (Vr hk) _) Z<|m4 Z Z Z Z<|mT Z<|m4 Z Z Z Z<|mT Z<|m4 Z Z Z Z<|mT Z<|m4 Z Z Z Z<|mT Z<|x2 Z Z ?_;exact ExM.ret<|pL
theorem Qn (hk:Kn W0){r c:Int}{fr fc:Bool}(hr:0≤r∧r<8)(hc:0≤c∧c<5):cP W0 137 [.agg [.str [116,104,105,114,100],.int .i64 r,.int .i64 c,.bool fr,.bool fc,.bool false]] [] (.bool true) []:=by have hg:=grK hk;refine goM 137 58 ?_;refine sO<|mV (v:=.ptr 0 0) Z<|x1 Z<|sq<|sO<|x2 Z Z<|cF Z<|kM<|sO<|m2 Z Z<|I1 hg gN (c:=true) Z Z (A5.pure Z Z (is191_3 hk) _) Z<|x1 Z<|sO<|m2 Z Z<|mG<|mG<|mG<|m4 Z Z Z Z<|mT Z<|m4 Z Z Z Z<|mT Z<|m4 Z Z Z Z<|mT Z<|m4 Z Z Z Z<|mT Z<|x2 Z Z ?_;exact ExM.ret<|pL
theorem G2 {s t:Bz}{b:Bool}(h1:Lib.trimPrefix s [36]=t)(h2:Lib.hasPrefix s [36]=b):cP W0 97 [.str s,.str [36]] [] (.tup [.str t,.bool b]) []:=by subst h1;subst h2;exact Ib
theorem Md {s:Bz}{i:Int}(h:Rt s 33=i)(hs:s.length<4611686018427387904):cP W0 228 [.str s,.int .u8 33] [] (.int .i64 i) []:=by subst h;exact lLast 33 hs
theorem wrS {x:Int}(h:0≤x)(h2:x<100):IntKind.i64.wrap (x-1)=x-1:=w64 Y Y
theorem Aao (hk:Kn W0){cl rw:Nat}(hc:cl<5)(hr:rw<8):cP W0 91 [.agg [.str [],.int .i64 (rw:Nat),.int .i64 (cl:Nat),.bool false,.bool false,.bool false]] [] (.tup [.str [cB cl,dB rw],.int .i64 0]) []:=rt00 hk J7 J6 (Ni hk hr) (Np hk hc)<|Q4 hk Y Y
theorem rd00' (hk:Kn W0){cl rw:Nat}(hc:cl<5)(hr:rw<8):cP W0 114 [.str [cB cl,dB rw]] [] (.tup [.agg [.str [],.int .i64 (rw:Nat),.int .i64 (cl:Nat),.bool false,.bool false,.bool false],.int .i64 0]) []:=by have h:=rr00 hk (a20:=(cl:Nat)) (a30:=(rw+1:Nat)) (c:=cB cl) (d:=dB rw) J7 J6 bY83 (Nl hk hr) (Nq hk hr) (G2 E3 E3) (Me hk hc) (G2 E3 E3)<|Md E3 Ax;rw[wrS Y Y,show((rw+1:Nat):Int)-1=(rw:Nat)by omega]at h;exact h
theorem A7p (hk:Kn W0){cl rw:Nat}(hc:cl<5)(hr:rw<8):B7 W0 [cB cl,dB rw] [] (rw:Nat) (cl:Nat) false false:=⟨Vy hk E3 E3 ⟨_,_,_,_,_,_,_,rd00' hk hc hr,Z⟩,Ax,E3,E3,Ax,rd00' hk hc hr,P3 hk Y Y⟩
theorem tx01 (hk:Kn W0){cl rw:Nat}(hc:cl<5)(hr:rw<8):cP W0 91 [.agg [.str [],.int .i64 (rw:Nat),.int .i64 (cl:Nat),.bool true,.bool false,.bool false]] [] (.tup [.str [cB cl,36,dB rw],.int .i64 0]) []:=rt01 hk J7 J6 (Ni hk hr) (Np hk hc)<|Q4 hk Y Y
theorem rd01' (hk:Kn W0){cl rw:Nat}(hc:cl<5)(hr:rw<8):cP W0 114 [.str [cB cl,36,dB rw]] [] (.tup [.agg [.str [],.int .i64 (rw:Nat),.int .i64 (cl:Nat),.bool true,.bool false,.bool false],.int .i64 0]) []:=by have h:=rr01 hk (a20:=(cl:Nat)) (a30:=(rw+1:Nat)) (c:=cB cl) (d:=dB rw) J7 J6 bY83 (Nl hk hr) (Nq hk hr) (G2 E3 E3) (Me hk hc) (G2 E3 E3)<|Md E3 Ax;rw[wrS Y Y,show((rw+1:Nat):Int)-1=(rw:Nat)by omega]at h;exact h
theorem rf01 (hk:Kn W0){cl rw:Nat}(hc:cl<5)(hr:rw<8):B7 W0 [cB cl,36,dB rw] [] (rw:Nat) (cl:Nat) true false:=⟨Vy hk E3 E3 ⟨_,_,_,_,_,_,_,rd01' hk hc hr,Z⟩,Ax,E3,E3,Ax,rd01' hk hc hr,P3 hk Y Y⟩
theorem tx02 (hk:Kn W0){cl rw:Nat}(hc:cl<5)(hr:rw<8):cP W0 91 [.agg [.str [],.int .i64 (rw:Nat),.int .i64 (cl:Nat),.bool false,.bool true,.bool false]] [] (.tup [.str [36,cB cl,dB rw],.int .i64 0]) []:=rt02 hk J7 J6 (Ni hk hr) (Np hk hc)<|Q4 hk Y Y
theorem rd02' (hk:Kn W0){cl rw:Nat}(hc:cl<5)(hr:rw<8):cP W0 114 [.str [36,cB cl,dB rw]] [] (.tup [.agg [.str [],.int .i64 (rw:Nat),.int .i64 (cl:Nat),.bool false,.bool true,.bool false],.int .i64 0]) []:=by have h:=rr02 hk (a20:=(cl:Nat)) (a30:=(rw+1:Nat)) (c:=cB cl) (d:=dB rw) J7 J6 bY83 (Nl hk hr) (Nq hk hr) (G2 E3 E3) (Me hk hc) (G2 E3 E3)<|Md E3 Ax;rw[wrS Y Y,show((rw+1:Nat):Int)-1=(rw:Nat)by omega]at h;exact h
theorem rf02 (hk:Kn W0){cl rw:Nat}(hc:cl<5)(hr:rw<8):B7 W0 [36,cB cl,dB rw] [] (rw:Nat) (cl:Nat) false true:=⟨Vy hk E3 E3 ⟨_,_,_,_,_,_,_,rd02' hk hc hr,Z⟩,Ax,by grind,E3,Ax,rd02' hk hc hr,P3 hk Y Y⟩
theorem tx10 (hk:Kn W0){cl rw:Nat}(hc:cl<5)(hr:rw<8):cP W0 91 [.agg [.str [83],.int .i64 (rw:Nat),.int .i64 (cl:Nat),.bool false,.bool false,.bool false]] [] (.tup [.str [83,33,cB cl,dB rw],.int .i64 0]) []:=rt10 hk J7 J6 (Ni hk hr) (Np hk hc) (A0w hk)<|Qg hk Y Y
theorem rd10' (hk:Kn W0){cl rw:Nat}(hc:cl<5)(hr:rw<8):cP W0 114 [.str [83,33,cB cl,dB rw]] [] (.tup [.agg [.str [83],.int .i64 (rw:Nat),.int .i64 (cl:Nat),.bool false,.bool false,.bool false],.int .i64 0]) []:=by have h:=rr10 hk (a20:=(cl:Nat)) (a30:=(rw+1:Nat)) (c:=cB cl) (d:=dB rw) J7 J6 bY82 (Nl hk hr) (Nq hk hr) (G2 E3 E3) (Me hk hc) (G2 E3 E3) (Vf hk) (A15 hk)<|Md E3 Ax;rw[wrS Y Y,show((rw+1:Nat):Int)-1=(rw:Nat)by omega]at h;exact h
theorem rf10 (hk:Kn W0){cl rw:Nat}(hc:cl<5)(hr:rw<8):B7 W0 [83,33,cB cl,dB rw] [83] (rw:Nat) (cl:Nat) false false:=⟨Q6 hk (b:=83) (w:=[]) (c:=[cB cl,dB rw]) V V E3 ⟨_,_,_,_,_,_,_,rd10' hk hc hr,Z⟩,Ax,by grind,E3,Ax,rd10' hk hc hr,P6 hk Y Y⟩
theorem tx11 (hk:Kn W0){cl rw:Nat}(hc:cl<5)(hr:rw<8):cP W0 91 [.agg [.str [83],.int .i64 (rw:Nat),.int .i64 (cl:Nat),.bool true,.bool false,.bool false]] [] (.tup [.str [83,33,cB cl,36,dB rw],.int .i64 0]) []:=rt11 hk J7 J6 (Ni hk hr) (Np hk hc) (A0w hk)<|Qg hk Y Y
theorem rd11' (hk:Kn W0){cl rw:Nat}(hc:cl<5)(hr:rw<8):cP W0 114 [.str [83,33,cB cl,36,dB rw]] [] (.tup [.agg [.str [83],.int .i64 (rw:Nat),.int .i64 (cl:Nat),.bool true,.bool false,.bool false],.int .i64 0]) []:=by have h:=rr11 hk (a20:=(cl:Nat)) (a30:=(rw+1:Nat)) (c:=cB cl) (d:=dB rw) J7 J6 bY82 (Nl hk hr) (Nq hk hr) (G2 E3 E3) (Me hk hc) (G2 E3 E3) (Vf hk) (A15 hk)<|Md E3 Ax;rw[wrS Y Y,show((rw+1:Nat):Int)-1=(rw:Nat)by omega]at h;exact h
theorem rf11 (hk:Kn W0){cl rw:Nat}(hc:cl<5)(hr:rw<8):B7 W0 [83,33,cB cl,36,dB rw] [83] (rw:Nat) (cl:Nat) true false:=⟨Q6 hk (b:=83) (w:=[]) (c:=[cB cl,36,dB rw]) V V E3 ⟨_,_,_,_,_,_,_,rd11' hk hc hr,Z⟩,Ax,by grind,E3,Ax,rd11' hk hc hr,P6 hk Y Y⟩
theorem tx12 (hk:Kn W0){cl rw:Nat}(hc:cl<5)(hr:rw<8):cP W0 91 [.agg [.str [83],.int .i64 (rw:Nat),.int .i64 (cl:Nat),.bool false,.bool true,.bool false]] [] (.tup [.str [83,33,36,cB cl,dB rw],.int .i64 0]) []:=rt12 hk J7 J6 (Ni hk hr) (Np hk hc) (A0w hk)<|Qg hk Y Y
theorem rd12' (hk:Kn W0){cl rw:Nat}(hc:cl<5)(hr:rw<8):cP W0 114 [.str [83,33,36,cB cl,dB rw]] [] (.tup [.agg [.str [83],.int .i64 (rw:Nat),.int .i64 (cl:Nat),.bool false,.bool true,.bool false],.int .i64 0]) []:=by have h:=rr12 hk (a20:=(cl:Nat)) (a30:=(rw+1:Nat)) (c:=cB cl) (d:=dB rw) J7 J6 bY82 (Nl hk hr) (Nq hk hr) (G2 E3 E3) (Me hk hc) (G2 E3 E3) (Vf hk) (A15 hk)<|Md E3 Ax;rw[wrS Y Y,show((rw+1:Nat):Int)-1=(rw:Nat)by omega]at h;exact h
theorem rf12 (hk:Kn W0){cl rw:Nat}(hc:cl<5)(hr:rw<8):B7 W0 [83,33,36,cB cl,dB rw] [83] (rw:Nat) (cl:Nat) false true:=⟨Q6 hk (b:=83) (w:=[]) (c:=[36,cB cl,dB rw]) V V E3 ⟨_,_,_,_,_,_,_,rd12' hk hc hr,Z⟩,Ax,by grind,E3,Ax,rd12' hk hc hr,P6 hk Y Y⟩
theorem tx20 (hk:Kn W0){cl rw:Nat}(hc:cl<5)(hr:rw<8):cP W0 91 [.agg [.str [84,119,111,32,120],.int .i64 (rw:Nat),.int .i64 (cl:Nat),.bool false,.bool false,.bool false]] [] (.tup [.str [39,84,119,111,32,120,39,33,cB cl,dB rw],.int .i64 0]) []:=rt20 hk J7 J6 (Ni hk hr) (Np hk hc) (Adc hk) (Zp hk)<|Qv hk Y Y
theorem rd20' (hk:Kn W0){cl rw:Nat}(hc:cl<5)(hr:rw<8):cP W0 114 [.str [39,84,119,111,32,120,39,33,cB cl,dB rw]] [] (.tup [.agg [.str [84,119,111,32,120],.int .i64 (rw:Nat),.int .i64 (cl:Nat),.bool false,.bool false,.bool false],.int .i64 0]) []:=by have h:=rr20 hk (a20:=(cl:Nat)) (a30:=(rw+1:Nat)) (c:=cB cl) (d:=dB rw) J7 J6 bY81 (Nl hk hr) (Nq hk hr) (G2 E3 E3) (Me hk hc) (G2 E3 E3) (Vj hk) (A02 hk)<|Md E3 Ax;rw[wrS Y Y,show((rw+1:Nat):Int)-1=(rw:Nat)by omega]at h;exact h
theorem rf20 (hk:Kn W0){cl rw:Nat}(hc:cl<5)(hr:rw<8):B7 W0 [39,84,119,111,32,120,39,33,cB cl,dB rw] [84,119,111,32,120] (rw:Nat) (cl:Nat) false false:=⟨A4j hk (c:=[cB cl,dB rw]) E3 ⟨_,_,_,_,_,_,_,rd20' hk hc hr,Z⟩,Ax,by grind,E3,Ax,rd20' hk hc hr,P8 hk Y Y⟩
theorem tx21 (hk:Kn W0){cl rw:Nat}(hc:cl<5)(hr:rw<8):cP W0 91 [.agg [.str [84,119,111,32,120],.int .i64 (rw:Nat),.int .i64 (cl:Nat),.bool true,.bool false,.bool false]] [] (.tup [.str [39,84,119,111,32,120,39,33,cB cl,36,dB rw],.int .i64 0]) []:=rt21 hk J7 J6 (Ni hk hr) (Np hk hc) (Adc hk) (Zp hk)<|Qv hk Y Y
theorem rd21' (hk:Kn W0){cl rw:Nat}(hc:cl<5)(hr:rw<8):cP W0 114 [.str [39,84,119,111,32,120,39,33,cB cl,36,dB rw]] [] (.tup [.agg [.str [84,119,111,32,120],.int .i64 (rw:Nat),.int .i64 (cl:Nat),.bool true,.bool false,.bool false],.int .i64 0]) []:=by have h:=rr21 hk (a20:=(cl:Nat)) (a30:=(rw+1:Nat)) (c:=cB cl) (d:=dB rw) J7 J6 bY81 (Nl hk hr) (Nq hk hr) (G2 E3 E3) (Me hk hc) (G2 E3 E3) (Vj hk) (A02 hk)<|Md E3 Ax;rw[wrS Y Y,show((rw+1:Nat):Int)-1=(rw:Nat)by omega]at h;exact h
theorem rf21 (hk:Kn W0){cl rw:Nat}(hc:cl<5)(hr:rw<8):B7 W0 [39,84,119,111,32,120,39,33,cB cl,36,dB rw] [84,119,111,32,120] (rw:Nat) (cl:Nat) true false:=⟨A4j hk (c:=[cB cl,36,dB rw]) E3 ⟨_,_,_,_,_,_,_,rd21' hk hc hr,Z⟩,Ax,by grind,E3,Ax,rd21' hk hc hr,P8 hk Y Y⟩
theorem tx22 (hk:Kn W0){cl rw:Nat}(hc:cl<5)(hr:rw<8):cP W0 91 [.agg [.str [84,119,111,32,120],.int .i64 (rw:Nat),.int .i64 (cl:Nat),.bool false,.bool true,.bool false]] [] (.tup [.str [39,84,119,111,32,120,39,33,36,cB cl,dB rw],.int .i64 0]) []:=rt22 hk J7 J6 (Ni hk hr) (Np hk hc) (Adc hk) (Zp hk)<|Qv hk Y Y
theorem rd22' (hk:Kn W0){cl rw:Nat}(hc:cl<5)(hr:rw<8):cP W0 114 [.str [39,84,119,111,32,120,39,33,36,cB cl,dB rw]] [] (.tup [.agg [.str [84,119,111,32,120],.int .i64 (rw:Nat),.int .i64 (cl:Nat),.bool false,.bool true,.bool false],.int .i64 0]) []:=by have h:=rr22 hk (a20:=(cl:Nat)) (a30:=(rw+1:Nat)) (c:=cB cl) (d:=dB rw) J7 J6 bY81 (Nl hk hr) (Nq hk hr) (G2 E3 E3) (Me hk hc) (G2 E3 E3) (Vj hk) (A02 hk)<|Md E3 Ax;rw[wrS Y Y,show((rw+1:Nat):Int)-1=(rw:Nat)by omega]at h;exact h
theorem rf22 (hk:Kn W0){cl rw:Nat}(hc:cl<5)(hr:rw<8):B7 W0 [39,84,119,111,32,120,39,33,36,cB cl,dB rw] [84,119,111,32,120] (rw:Nat) (cl:Nat) false true:=⟨A4j hk (c:=[36,cB cl,dB rw]) E3 ⟨_,_,_,_,_,_,_,rd22' hk hc hr,Z⟩,Ax,by grind,E3,Ax,rd22' hk hc hr,P8 hk Y Y⟩
theorem tx30 (hk:Kn W0){cl rw:Nat}(hc:cl<5)(hr:rw<8):cP W0 91 [.agg [.str [116,104,105,114,100],.int .i64 (rw:Nat),.int .i64 (cl:Nat),.bool false,.bool false,.bool false]] [] (.tup [.str [116,104,105,114,100,33,cB cl,dB rw],.int .i64 0]) []:=rt30 hk J7 J6 (Ni hk hr) (Np hk hc) (A17 hk)<|Qn hk Y Y
theorem rd30' (hk:Kn W0){cl rw:Nat}(hc:cl<5)(hr:rw<8):cP W0 114 [.str [116,104,105,114,100,33,cB cl,dB rw]] [] (.tup [.agg [.str [116,104,105,114,100],.int .i64 (rw:Nat),.int .i64 (cl:Nat),.bool false,.bool false,.bool false],.int .i64 0]) []:=by have h:=rr30 hk (a20:=(cl:Nat)) (a30:=(rw+1:Nat)) (c:=cB cl) (d:=dB rw) J7 J6 bY80 (Nl hk hr) (Nq hk hr) (G2 E3 E3) (Me hk hc) (G2 E3 E3) (Vr hk) (A10 hk)<|Md E3 Ax;rw[wrS Y Y,show((rw+1:Nat):Int)-1=(rw:Nat)by omega]at h;exact h
theorem rf30 (hk:Kn W0){cl rw:Nat}(hc:cl<5)(hr:rw<8):B7 W0 [116,104,105,114,100,33,cB cl,dB rw] [116,104,105,114,100] (rw:Nat) (cl:Nat) false false:=⟨Q6 hk (b:=116) (w:=[104,105,114,100]) (c:=[cB cl,dB rw]) V V E3 ⟨_,_,_,_,_,_,_,rd30' hk hc hr,Z⟩,Ax,by grind,E3,Ax,rd30' hk hc hr,P0 hk Y Y⟩
theorem tx31 (hk:Kn W0){cl rw:Nat}(hc:cl<5)(hr:rw<8):cP W0 91 [.agg [.str [116,104,105,114,100],.int .i64 (rw:Nat),.int .i64 (cl:Nat),.bool true,.bool false,.bool false]] [] (.tup [.str [116,104,105,114,100,33,cB cl,36,dB rw],.int .i64 0]) []:=rt31 hk J7 J6 (Ni hk hr) (Np hk hc) (A17 hk)<|Qn hk Y Y
theorem rd31' (hk:Kn W0){cl rw:Nat}(hc:cl<5)(hr:rw<8):cP W0 114 [.str [116,104,105,114,100,33,cB cl,36,dB rw]] [] (.tup [.agg [.str [116,104,105,114,100],.int .i64 (rw:Nat),.int .i64 (cl:Nat),.bool true,.bool false,.bool false],.int .i64 0]) []:=by have h:=rr31 hk (a20:=(cl:Nat)) (a30:=(rw+1:Nat)) (c:=cB cl) (d:=dB rw) J7 J6 bY80 (Nl hk hr) (Nq hk hr) (G2 E3 E3) (Me hk hc) (G2 E3 E3) (Vr hk) (A10 hk)<|Md E3 Ax;rw[wrS Y Y,show((rw+1:Nat):Int)-1=(rw:Nat)by omega]at h;exact h
theorem rf31 (hk:Kn W0){cl rw:Nat}(hc:cl<5)(hr:rw<8):B7 W0 [116,104,105,114,100,33,cB cl,36,dB rw] [116,104,105,114,100] (rw:Nat) (cl:Nat) true false:=⟨Q6 hk (b:=116) (w:=[104,105,114,100]) (c:=[cB cl,36,dB rw]) V V E3 ⟨_,_,_,_,_,_,_,rd31' hk hc hr,Z⟩,Ax,by grind,E3,Ax,rd31' hk hc hr,P0 hk Y Y⟩
theorem tx32 (hk:Kn W0){cl rw:Nat}(hc:cl<5)(hr:rw<8):cP W0 91 [.agg [.str [116,104,105,114,100],.int .i64 (rw:Nat),.int .i64 (cl:Nat),.bool false,.bool true,.bool false]] [] (.tup [.str [116,104,105,114,100,33,36,cB cl,dB rw],.int .i64 0]) []:=rt32 hk J7 J6 (Ni hk hr) (Np hk hc) (A17 hk)<|Qn hk Y Y
theorem rd32' (hk:Kn W0){cl rw:Nat}(hc:cl<5)(hr:rw<8):cP W0 114 [.str [116,104,105,114,100,33,36,cB cl,dB rw]] [] (.tup [.agg [.str [116,104,105,114,100],.int .i64 (rw:Nat),.int .i64 (cl:Nat),.bool false,.bool true,.bool false],.int .i64 0]) []:=by have h:=rr32 hk (a20:=(cl:Nat)) (a30:=(rw+1:Nat)) (c:=cB cl) (d:=dB rw) J7 J6 bY80 (Nl hk hr) (Nq hk hr) (G2 E3 E3) (Me hk hc) (G2 E3 E3) (Vr hk) (A10 hk)<|Md E3 Ax;rw[wrS Y Y,show((rw+1:Nat):Int)-1=(rw:Nat)by omega]at h;exact h
theorem rf32 (hk:Kn W0){cl rw:Nat}(hc:cl<5)(hr:rw<8):B7 W0 [116,104,105,114,100,33,36,cB cl,dB rw] [116,104,105,114,100] (rw:Nat) (cl:Nat) false true:=⟨Q6 hk (b:=116) (w:=[104,105,114,100]) (c:=[36,cB cl,dB rw]) V V E3 ⟨_,_,_,_,_,_,_,rd32' hk hc hr,Z⟩,Ax,by grind,E3,Ax,rd32' hk hc hr,P0 hk Y Y⟩
end Go.Abs
namespace Go.Abs
open Go.Proofs Go.RowKit
set_option maxRecDepth 10000000
variable {W0 : World}
theorem pk0 (hk:Kn W0){s1 s101:Bz}{a0 a1 a2 c1 r1:Int}{fc1 fr1:Bool}(h1:oC W0 37 [N12 s1 r1 c1 fr1 fc1]<|.bool true)(h2:oC W0 99 [.str [49]]<|N13)(h3:oC W0 114 [.str s101]<|N14 s1 r1 c1 fr1 fc1):cP W0 150 [N18 s101 a0 a1 a2] [] (N21 s1 r1 c1 fr1 fc1) []:=C3 hk Nu (ss0 29 [(true,97),(true,42)] 27 [] [(N14 s1 r1 c1 fr1 fc1,none),(.bool true,none),(N13,none),(.bool true,none)] []) Am<|gdE ((s1==s1)&&((r1==r1)&&((c1==c1)&&((fr1==fr1)&&((fc1==fc1)&&((false==false)&&true)))))) true<|gdC h1<|gdC h2<|gdE ((s1==s1)&&((r1==r1)&&((c1==c1)&&((fr1==fr1)&&((fc1==fc1)&&((false==false)&&true)))))) true<|gdC h1<|gdC h3 gdN
theorem pt0 (hk:Kn W0){s1 s93 s101:Bz}{a0 a1 a2 c1 r1:Int}{fc1 fr1:Bool}(h1:oC W0 150 [N18 s101 a0 a1 a2]<|N21 s1 r1 c1 fr1 fc1)(h2:oC W0 149 [.str s93]<|N22 s101 a0 a1 a2):cP W0 98 [.str s93] [] (N21 s1 r1 c1 fr1 fc1) []:=C3 hk Ns (ss0 2 [] 0 [] [(N22 s101 a0 a1 a2,none),(N21 s1 r1 c1 fr1 fc1,none)] []) Am<|gdC h1<|gdC h2 gdN
theorem pk1 (hk:Kn W0){s1 s2 s101 s102:Bz}{a0 a1 a2 c1 c2 r1 r2:Int}{fc1 fc2 fr1 fr2:Bool}(h1:oC W0 37 [N12 s2 r2 c2 fr2 fc2]<|.bool true)(h2:oC W0 37 [N12 s1 r1 c1 fr1 fc1]<|.bool true)(h3:oC W0 114 [.str s102]<|N14 s2 r2 c2 fr2 fc2)(h4:oC W0 114 [.str s101]<|N14 s1 r1 c1 fr1 fc1):cP W0 150 [N24 s101 a0 a1 s102 a2] [] (N25 s1 r1 c1 fr1 fc1 s2 r2 c2 fr2 fc2) []:=C3 hk Nu (ss0 29 [(true,52),(true,49),(true,22),(true,15)] 25 [] [(N14 s1 r1 c1 fr1 fc1,none),(.bool true,none),(N14 s2 r2 c2 fr2 fc2,none),(.bool true,none),(.bool true,none),(.bool true,none)] []) Am<|gdE ((s2==s2)&&((r2==r2)&&((c2==c2)&&((fr2==fr2)&&((fc2==fc2)&&((false==false)&&true)))))) true<|gdC h1<|gdE ((s1==s1)&&((r1==r1)&&((c1==c1)&&((fr1==fr1)&&((fc1==fc1)&&((false==false)&&true)))))) true<|gdC h2<|gdE ((s2==s2)&&((r2==r2)&&((c2==c2)&&((fr2==fr2)&&((fc2==fc2)&&((false==false)&&true)))))) true<|gdC h1<|gdC h3<|gdE ((s1==s1)&&((r1==r1)&&((c1==c1)&&((fr1==fr1)&&((fc1==fc1)&&((false==false)&&true)))))) true<|gdC h2<|gdC h4 gdN
theorem pt1 (hk:Kn W0){s1 s2 s93 s101 s102:Bz}{a0 a1 a2 c1 c2 r1 r2:Int}{fc1 fc2 fr1 fr2:Bool}(h1:oC W0 150 [N24 s101 a0 a1 s102 a2]<|N25 s1 r1 c1 fr1 fc1 s2 r2 c2 fr2 fc2)(h2:oC W0 149 [.str s93]<|N26 s101 a0 a1 s102 a2):cP W0 98 [.str s93] [] (N25 s1 r1 c1 fr1 fc1 s2 r2 c2 fr2 fc2) []:=C3 hk Ns (ss0 2 [] 0 [] [(N26 s101 a0 a1 s102 a2,none),(N25 s1 r1 c1 fr1 fc1 s2 r2 c2 fr2 fc2,none)] []) Am<|gdC h1<|gdC h2 gdN
theorem pk2 (hk:Kn W0){s1 s101 s103:Bz}{a0 a1 a2 a3 a4 a5 c1 c3 r1 r3:Int}{fc1 fc3 fr1 fr3:Bool}(h1:oC W0 37 [N27 r3 c3 fr3 fc3]<|.bool true)(h2:oC W0 37 [N12 s1 r1 c1 fr1 fc1]<|.bool true)(h3:oC W0 114 [.str s103]<|N28 r3 c3 fr3 fc3)(h4:oC W0 114 [.str s101]<|N14 s1 r1 c1 fr1 fc1):cP W0 150 [N32 a0 a1 s101 a2 a3 s103 a4 a5] [] (N34 s1 r1 c1 fr1 fc1 r3 c3 fr3 fc3) []:=C3 hk Nu (ss0 61 [(true,20),(true,0),(true,78),(true,0),(true,14)] 39 [] [(N14 s1 r1 c1 fr1 fc1,none),(.bool true,none),(N28 r3 c3 fr3 fc3,none),(.bool true,none),(.bool true,none),(.bool true,none),(.bool true,none)] [1,2,0,2,0,0]) Am<|gdE ((([]:Bz)==([]:Bz))&&((r3==r3)&&((c3==c3)&&((fr3==fr3)&&((fc3==fc3)&&((false==false)&&true)))))) true<|gdE ((s1==s1)&&((r1==r1)&&((c1==c1)&&((fr1==fr1)&&((fc1==fc1)&&((false==false)&&true)))))) true<|gdC h1<|gdC h2<|gdE ((([]:Bz)==([]:Bz))&&((r3==r3)&&((c3==c3)&&((fr3==fr3)&&((fc3==fc3)&&((false==false)&&true)))))) true<|gdE ((s1==s1)&&((r1==r1)&&((c1==c1)&&((fr1==fr1)&&((fc1==fc1)&&((false==false)&&true)))))) true<|gdC h1<|gdC h2<|gdC h3<|gdE ((s1==s1)&&((r1==r1)&&((c1==c1)&&((fr1==fr1)&&((fc1==fc1)&&((false==false)&&true)))))) true<|gdC h2<|gdC h4 gdN
theorem pt2 (hk:Kn W0){s1 s93 s101 s103:Bz}{a0 a1 a2 a3 a4 a5 c1 c3 r1 r3:Int}{fc1 fc3 fr1 fr3:Bool}(h1:oC W0 150 [N32 a0 a1 s101 a2 a3 s103 a4 a5]<|N34 s1 r1 c1 fr1 fc1 r3 c3 fr3 fc3)(h2:oC W0 149 [.str s93]<|N35 a0 a1 s101 a2 a3 s103 a4 a5):cP W0 98 [.str s93] [] (N34 s1 r1 c1 fr1 fc1 r3 c3 fr3 fc3) []:=C3 hk Ns (ss0 2 [] 0 [] [(N35 a0 a1 s101 a2 a3 s103 a4 a5,none),(N34 s1 r1 c1 fr1 fc1 r3 c3 fr3 fc3,none)] []) Am<|gdC h1<|gdC h2 gdN
theorem pk3 (hk:Kn W0){s1 s2 s101 s102:Bz}{a0 a1 a2 a3 a4 a5 a6 a7 a8 a9 c1 c2 r1 r2:Int}{fc1 fc2 fr1 fr2:Bool}(h1:oC W0 37 [N12 s2 r2 c2 fr2 fc2]<|.bool true)(h2:oC W0 37 [N12 s1 r1 c1 fr1 fc1]<|.bool true)(h3:oC W0 99 [.str [48]]<|N36)(h4:oC W0 114 [.str s102]<|N14 s2 r2 c2 fr2 fc2)(h5:oC W0 99 [.str [50]]<|N37)(h6:oC W0 114 [.str s101]<|N14 s1 r1 c1 fr1 fc1):cP W0 150 [N40 a0 a1 s101 a2 a3 a4 a5 s102 a6 a7 a8 a9] [] (N43 s1 r1 c1 fr1 fc1 s2 r2 c2 fr2 fc2) []:=C3 hk Nu (ss0 58 [(true,119),(true,158),(true,50),(true,40)] 97 [] [(N14 s1 r1 c1 fr1 fc1,none),(.bool true,none),(N37,none),(N14 s2 r2 c2 fr2 fc2,none),(.bool true,none),(N36,none),(.bool true,none),(.bool true,none)] [0,2,0,0,0,2,0,0,0,2,0,0]) Am<|gdE ((s2==s2)&&((r2==r2)&&((c2==c2)&&((fr2==fr2)&&((fc2==fc2)&&((false==false)&&true)))))) true<|gdC h1<|gdE ((s1==s1)&&((r1==r1)&&((c1==c1)&&((fr1==fr1)&&((fc1==fc1)&&((false==false)&&true)))))) true<|gdC h2<|gdC h3<|gdE ((s2==s2)&&((r2==r2)&&((c2==c2)&&((fr2==fr2)&&((fc2==fc2)&&((false==false)&&true)))))) true<|gdC h1<|gdC h4<|gdC h5<|gdE ((s1==s1)&&((r1==r1)&&((c1==c1)&&((fr1==fr1)&&((fc1==fc1)&&((false==false)&&true)))))) true<|gdC h2<|gdC h6 gdN
theorem pt3 (hk:Kn W0){s1 s2 s93 s101 s102:Bz}{a0 a1 a2 a3 a4 a5 a6 a7 a8 a9 c1 c2 r1 r2:Int}{fc1 fc2 fr1 fr2:Bool}(h1:oC W0 150 [N40 a0 a1 s101 a2 a3 a4 a5 s102 a6 a7 a8 a9]<|N43 s1 r1 c1 fr1 fc1 s2 r2 c2 fr2 fc2)(h2:oC W0 149 [.str s93]<|N44 a0 a1 s101 a2 a3 a4 a5 s102 a6 a7 a8 a9):cP W0 98 [.str s93] [] (N43 s1 r1 c1 fr1 fc1 s2 r2 c2 fr2 fc2) []:=C3 hk Ns (ss0 2 [] 0 [] [(N44 a0 a1 s101 a2 a3 a4 a5 s102 a6 a7 a8 a9,none),(N43 s1 r1 c1 fr1 fc1 s2 r2 c2 fr2 fc2,none)] []) Am<|gdC h1<|gdC h2 gdN
theorem pk4 (hk:Kn W0){s1 s101:Bz}{a0 a1 a2 a3 a4 a5 a6 a7 a8 a9 a10 c1 r1:Int}{fc1 fr1:Bool}(h1:oC W0 37 [N12 s1 r1 c1 fr1 fc1]<|.bool true)(h2:oC W0 114 [.str s101]<|N14 s1 r1 c1 fr1 fc1)(h3:oC W0 99 [.str [52]]<|N45)(h4:oC W0 99 [.str [51]]<|N46)(h5:oC W0 99 [.str [50]]<|N37)(h6:oC W0 99 [.str [49]]<|N13):cP W0 150 [N47 a0 a1 a2 a3 a4 a5 a6 a7 a8 a9 s101 a10] [] (N48 s1 r1 c1 fr1 fc1) []:=C3 hk Nu (ss0 189 [(true,197),(true,15)] 70 [] [(N13,none),(N37,none),(N46,none),(N45,none),(N14 s1 r1 c1 fr1 fc1,none),(.bool true,none),(.bool true,none)] []) Am<|gdE ((s1==s1)&&((r1==r1)&&((c1==c1)&&((fr1==fr1)&&((fc1==fc1)&&((false==false)&&true)))))) true<|gdC h1<|gdE ((s1==s1)&&((r1==r1)&&((c1==c1)&&((fr1==fr1)&&((fc1==fc1)&&((false==false)&&true)))))) true<|gdC h1<|gdC h2<|gdC h3<|gdC h4<|gdC h5<|gdC h6 gdN
theorem pt4 (hk:Kn W0){s1 s93 s101:Bz}{a0 a1 a2 a3 a4 a5 a6 a7 a8 a9 a10 c1 r1:Int}{fc1 fr1:Bool}(h1:oC W0 150 [N47 a0 a1 a2 a3 a4 a5 a6 a7 a8 a9 s101 a10]<|N48 s1 r1 c1 fr1 fc1)(h2:oC W0 149 [.str s93]<|N49 a0 a1 a2 a3 a4 a5 a6 a7 a8 a9 s101 a10):cP W0 98 [.str s93] [] (N48 s1 r1 c1 fr1 fc1) []:=C3 hk Ns (ss0 2 [] 0 [] [(N49 a0 a1 a2 a3 a4 a5 a6 a7 a8 a9 s101 a10,none),(N48 s1 r1 c1 fr1 fc1,none)] []) Am<|gdC h1<|gdC h2 gdN
theorem pk5 (hk:Kn W0){s1 s101 s103:Bz}{a0 a1 a2 a3 a4 c1 c3 r1 r3:Int}{fc1 fc3 fr1 fr3:Bool}(h1:oC W0 37 [N27 r3 c3 fr3 fc3]<|.bool true)(h2:oC W0 37 [N12 s1 r1 c1 fr1 fc1]<|.bool true)(h3:oC W0 99 [.str [50]]<|N37)(h4:oC W0 114 [.str s103]<|N28 r3 c3 fr3 fc3)(h5:oC W0 114 [.str s101]<|N14 s1 r1 c1 fr1 fc1):cP W0 150 [N50 s101 a0 a1 s103 a2 a3 a4] [] (N51 s1 r1 c1 fr1 fc1 r3 c3 fr3 fc3) []:=C3 hk Nu (ss0 29 [(true,20),(true,0),(true,98),(true,0),(true,41)] 29 [] [(N14 s1 r1 c1 fr1 fc1,none),(.bool true,none),(N28 r3 c3 fr3 fc3,none),(.bool true,none),(.bool true,none),(N37,none),(.bool true,none),(.bool true,none)] [1,2]) Am<|gdE ((([]:Bz)==([]:Bz))&&((r3==r3)&&((c3==c3)&&((fr3==fr3)&&((fc3==fc3)&&((false==false)&&true)))))) true<|gdE ((s1==s1)&&((r1==r1)&&((c1==c1)&&((fr1==fr1)&&((fc1==fc1)&&((false==false)&&true)))))) true<|gdC h1<|gdC h2<|gdC h3<|gdE ((([]:Bz)==([]:Bz))&&((r3==r3)&&((c3==c3)&&((fr3==fr3)&&((fc3==fc3)&&((false==false)&&true)))))) true<|gdE ((s1==s1)&&((r1==r1)&&((c1==c1)&&((fr1==fr1)&&((fc1==fc1)&&((false==false)&&true)))))) true<|gdC h1<|gdC h2<|gdC h4<|gdE ((s1==s1)&&((r1==r1)&&((c1==c1)&&((fr1==fr1)&&((fc1==fc1)&&((false==false)&&true)))))) true<|gdC h2<|gdC h5 gdN
theorem pt5 (hk:Kn W0){s1 s93 s101 s103:Bz}{a0 a1 a2 a3 a4 c1 c3 r1 r3:Int}{fc1 fc3 fr1 fr3:Bool}(h1:oC W0 150 [N50 s101 a0 a1 s103 a2 a3 a4]<|N51 s1 r1 c1 fr1 fc1 r3 c3 fr3 fc3)(h2:oC W0 149 [.str s93]<|N52 s101 a0 a1 s103 a2 a3 a4):cP W0 98 [.str s93] [] (N51 s1 r1 c1 fr1 fc1 r3 c3 fr3 fc3) []:=C3 hk Ns (ss0 2 [] 0 [] [(N52 s101 a0 a1 s103 a2 a3 a4,none),(N51 s1 r1 c1 fr1 fc1 r3 c3 fr3 fc3,none)] []) Am<|gdC h1<|gdC h2 gdN
theorem pk6 (hk:Kn W0){s1 s2 s101 s102:Bz}{a0 a1 a2 a3 a4 a5 a6 a7 a8 a9 a10 a11 c1 c2 r1 r2:Int}{fc1 fc2 fr1 fr2:Bool}(h1:oC W0 37 [N12 s2 r2 c2 fr2 fc2]<|.bool true)(h2:oC W0 114 [.str [120]]<|N53)(h3:oC W0 37 [N12 s1 r1 c1 fr1 fc1]<|.bool true)(h4:oC W0 114 [.str s102]<|N14 s2 r2 c2 fr2 fc2)(h5:oC W0 114 [.str s101]<|N14 s1 r1 c1 fr1 fc1):cP W0 150 [N56 a0 a1 a2 a3 s101 a4 a5 a6 a7 a8 a9 s102 a10 a11] [] (N58 s1 r1 c1 fr1 fc1 s2 r2 c2 fr2 fc2) []:=C3 hk Nu (ss0 84 [(true,209),(true,111),(true,162),(true,16)] 113 [] [(N53,none),(N14 s1 r1 c1 fr1 fc1,none),(.bool true,none),(N53,none),(N53,none),(N14 s2 r2 c2 fr2 fc2,none),(.bool true,none),(N53,none),(.bool true,none),(N53,none),(N53,none),(.bool true,none)] []) Am<|gdE ((s2==s2)&&((r2==r2)&&((c2==c2)&&((fr2==fr2)&&((fc2==fc2)&&((false==false)&&true)))))) true<|gdC h1<|gdC h2<|gdC h2<|gdE ((s1==s1)&&((r1==r1)&&((c1==c1)&&((fr1==fr1)&&((fc1==fc1)&&((false==false)&&true)))))) true<|gdC h3<|gdC h2<|gdE ((s2==s2)&&((r2==r2)&&((c2==c2)&&((fr2==fr2)&&((fc2==fc2)&&((false==false)&&true)))))) true<|gdC h1<|gdC h4<|gdC h2<|gdC h2<|gdE ((s1==s1)&&((r1==r1)&&((c1==c1)&&((fr1==fr1)&&((fc1==fc1)&&((false==false)&&true)))))) true<|gdC h3<|gdC h5<|gdC h2 gdN
theorem pt6 (hk:Kn W0){s1 s2 s93 s101 s102:Bz}{a0 a1 a2 a3 a4 a5 a6 a7 a8 a9 a10 a11 c1 c2 r1 r2:Int}{fc1 fc2 fr1 fr2:Bool}(h1:oC W0 150 [N56 a0 a1 a2 a3 s101 a4 a5 a6 a7 a8 a9 s102 a10 a11]<|N58 s1 r1 c1 fr1 fc1 s2 r2 c2 fr2 fc2)(h2:oC W0 149 [.str s93]<|N59 a0 a1 a2 a3 s101 a4 a5 a6 a7 a8 a9 s102 a10 a11):cP W0 98 [.str s93] [] (N58 s1 r1 c1 fr1 fc1 s2 r2 c2 fr2 fc2) []:=C3 hk Ns (ss0 2 [] 0 [] [(N59 a0 a1 a2 a3 s101 a4 a5 a6 a7 a8 a9 s102 a10 a11,none),(N58 s1 r1 c1 fr1 fc1 s2 r2 c2 fr2 fc2,none)] []) Am<|gdC h1<|gdC h2 gdN
theorem pk7 (hk:Kn W0){s1 s101:Bz}{a0 a1 a2 a3 a4 a5 a6 a7 a8 a9 a10 a11 a12 a13 a14 a15 a16 a17 a18 a19 a20 a21 a22 a23 a24 a25 a26 a27 a28 a29 a30 a31 c1 r1:Int}{fc1 fr1:Bool}(h1:oC W0 37 [N12 s1 r1 c1 fr1 fc1]<|.bool true)(h2:oC W0 114 [.str [110]]<|N53)(h3:oC W0 114 [.str [102]]<|N53)(h4:oC W0 114 [.str s101]<|N14 s1 r1 c1 fr1 fc1)(h5:oC W0 99 [.str [49]]<|N13):cP W0 150 [N61 a0 a1 a2 a3 a4 a5 a6 a7 a8 a9 a10 a11 a12 a13 a14 a15 a16 a17 a18 a19 a20 a21 a22 a23 a24 a25 a26 a27 a28 s101 a29 a30 a31] [] (N65 s1 r1 c1 fr1 fc1) []:=C3 hk Nu (ss0 719 [(true,565),(true,16)] 299 [] [(N53,none),(N53,none),(N53,none),(N13,none),(N13,none),(N53,none),(N53,none),(N13,none),(N14 s1 r1 c1 fr1 fc1,none),(.bool true,none),(N53,none),(N53,none),(N53,none),(N53,none),(N53,none),(.bool true,none)] [0,2,0,0,0,2,0,0,0,2,0,0,0,2,0,0,0,2,0,0]) Am<|gdE ((s1==s1)&&((r1==r1)&&((c1==c1)&&((fr1==fr1)&&((fc1==fc1)&&((false==false)&&true)))))) true<|gdC h1<|gdC h2<|gdC h2<|gdC h2<|gdC h2<|gdC h3<|gdE ((s1==s1)&&((r1==r1)&&((c1==c1)&&((fr1==fr1)&&((fc1==fc1)&&((false==false)&&true)))))) true<|gdC h1<|gdC h4<|gdC h5<|gdC h2<|gdC h2<|gdC h5<|gdC h5<|gdC h2<|gdC h2<|gdC h3 gdN
theorem pt7 (hk:Kn W0){s1 s93 s101:Bz}{a0 a1 a2 a3 a4 a5 a6 a7 a8 a9 a10 a11 a12 a13 a14 a15 a16 a17 a18 a19 a20 a21 a22 a23 a24 a25 a26 a27 a28 a29 a30 a31 c1 r1:Int}{fc1 fr1:Bool}(h1:oC W0 150 [N61 a0 a1 a2 a3 a4 a5 a6 a7 a8 a9 a10 a11 a12 a13 a14 a15 a16 a17 a18 a19 a20 a21 a22 a23 a24 a25 a26 a27 a28 s101 a29 a30 a31]<|N65 s1 r1 c1 fr1 fc1)(h2:oC W0 149 [.str s93]<|N66 a0 a1 a2 a3 a4 a5 a6 a7 a8 a9 a10 a11 a12 a13 a14 a15 a16 a17 a18 a19 a20 a21 a22 a23 a24 a25 a26 a27 a28 s101 a29 a30 a31):cP W0 98 [.str s93] [] (N65 s1 r1 c1 fr1 fc1) []:=C3 hk Ns (ss0 2 [] 0 [] [(N66 a0 a1 a2 a3 a4 a5 a6 a7 a8 a9 a10 a11 a12 a13 a14 a15 a16 a17 a18 a19 a20 a21 a22 a23 a24 a25 a26 a27 a28 s101 a29 a30 a31,none),(N65 s1 r1 c1 fr1 fc1,none)] []) Am<|gdC h1<|gdC h2 gdN
theorem pk8 (hk:Kn W0){s1 s101:Bz}{a0 a1 a2 c1 r1:Int}{fc1 fr1:Bool}(h1:oC W0 37 [N12 s1 r1 c1 fr1 fc1]<|.bool true)(h2:oC W0 114 [.str s101]<|N14 s1 r1 c1 fr1 fc1):cP W0 150 [N67 s101 a0 a1 a2] [] (N68 s1 r1 c1 fr1 fc1) []:=C3 hk Nu (ss0 29 [(true,113),(true,60)] 25 [] [(N14 s1 r1 c1 fr1 fc1,none),(.bool true,none),(.bool true,none)] []) Am<|gdE ((s1==s1)&&((r1==r1)&&((c1==c1)&&((fr1==fr1)&&((fc1==fc1)&&((false==false)&&true)))))) true<|gdC h1<|gdE ((s1==s1)&&((r1==r1)&&((c1==c1)&&((fr1==fr1)&&((fc1==fc1)&&((false==false)&&true)))))) true<|gdC h1<|gdC h2 gdN
theorem pt8 (hk:Kn W0){s1 s93 s101:Bz}{a0 a1 a2 c1 r1:Int}{fc1 fr1:Bool}(h1:oC W0 150 [N67 s101 a0 a1 a2]<|N68 s1 r1 c1 fr1 fc1)(h2:oC W0 149 [.str s93]<|N69 s101 a0 a1 a2):cP W0 98 [.str s93] [] (N68 s1 r1 c1 fr1 fc1) []:=C3 hk Ns (ss0 2 [] 0 [] [(N69 s101 a0 a1 a2,none),(N68 s1 r1 c1 fr1 fc1,none)] []) Am<|gdC h1<|gdC h2 gdN
theorem pk9 (hk:Kn W0){s1 s101:Bz}{a0 a1 a2 c1 r1:Int}{fc1 fr1:Bool}(h1:oC W0 37 [N12 s1 r1 c1 fr1 fc1]<|.bool true)(h2:oC W0 114 [.str s101]<|N14 s1 r1 c1 fr1 fc1)(h3:oC W0 99 [.str [49]]<|N13):cP W0 150 [N70 a0 a1 s101 a2] [] (N71 s1 r1 c1 fr1 fc1) []:=C3 hk Nu (ss0 80 [(true,77),(true,15)] 25 [] [(N13,none),(N14 s1 r1 c1 fr1 fc1,none),(.bool true,none),(.bool true,none)] []) Am<|gdE ((s1==s1)&&((r1==r1)&&((c1==c1)&&((fr1==fr1)&&((fc1==fc1)&&((false==false)&&true)))))) true<|gdC h1<|gdE ((s1==s1)&&((r1==r1)&&((c1==c1)&&((fr1==fr1)&&((fc1==fc1)&&((false==false)&&true)))))) true<|gdC h1<|gdC h2<|gdC h3 gdN
theorem pt9 (hk:Kn W0){s1 s93 s101:Bz}{a0 a1 a2 c1 r1:Int}{fc1 fr1:Bool}(h1:oC W0 150 [N70 a0 a1 s101 a2]<|N71 s1 r1 c1 fr1 fc1)(h2:oC W0 149 [.str s93]<|N72 a0 a1 s101 a2):cP W0 98 [.str s93] [] (N71 s1 r1 c1 fr1 fc1) []:=C3 hk Ns (ss0 2 [] 0 [] [(N72 a0 a1 s101 a2,none),(N71 s1 r1 c1 fr1 fc1,none)] []) Am<|gdC h1<|gdC h2 gdN
theorem pk10 (hk:Kn W0){s1 s101:Bz}{a0 a1 a2 c1 r1:Int}{fc1 fr1:Bool}(h1:oC W0 37 [N12 s1 r1 c1 fr1 fc1]<|.bool true)(h2:oC W0 37 [N73]<|.bool true)(h3:oC W0 114 [.str s101]<|N14 s1 r1 c1 fr1 fc1)(h4:oC W0 114 [.str [35,82,69,70,33]]<|N74):cP W0 150 [N75 a0 a1 s101 a2] [] (N76 s1 r1 c1 fr1 fc1) []:=C3 hk Nu (ss0 80 [(true,70),(true,15)] 25 [] [(N74,none),(.bool true,none),(N14 s1 r1 c1 fr1 fc1,none),(.bool true,none),(.bool true,none),(.bool true,none)] []) Am<|gdE ((s1==s1)&&((r1==r1)&&((c1==c1)&&((fr1==fr1)&&((fc1==fc1)&&((false==false)&&true)))))) true<|gdC h1<|gdC h2<|gdE ((s1==s1)&&((r1==r1)&&((c1==c1)&&((fr1==fr1)&&((fc1==fc1)&&((false==false)&&true)))))) true<|gdC h1<|gdC h3<|gdC h2<|gdC h4 gdN
theorem pt10 (hk:Kn W0){s1 s93 s101:Bz}{a0 a1 a2 c1 r1:Int}{fc1 fr1:Bool}(h1:oC W0 150 [N75 a0 a1 s101 a2]<|N76 s1 r1 c1 fr1 fc1)(h2:oC W0 149 [.str s93]<|N77 a0 a1 s101 a2):cP W0 98 [.str s93] [] (N76 s1 r1 c1 fr1 fc1) []:=C3 hk Ns (ss0 2 [] 0 [] [(N77 a0 a1 s101 a2,none),(N76 s1 r1 c1 fr1 fc1,none)] []) Am<|gdC h1<|gdC h2 gdN
theorem pk11 (hk:Kn W0){s1 s101:Bz}{a0 a1 a2 c1 r1:Int}{fc1 fr1:Bool}(h1:oC W0 37 [N12 s1 r1 c1 fr1 fc1]<|.bool true)(h2:oC W0 114 [.str s101]<|N14 s1 r1 c1 fr1 fc1):cP W0 150 [N78 a0 s101 a1 a2] [] (N79 s1 r1 c1 fr1 fc1) []:=C3 hk Nu (ss0 37 [(true,69),(true,16)] 20 [] [(N14 s1 r1 c1 fr1 fc1,none),(.bool true,none),(.bool true,none)] []) Am<|gdE ((s1==s1)&&((r1==r1)&&((c1==c1)&&((fr1==fr1)&&((fc1==fc1)&&((false==false)&&true)))))) true<|gdC h1<|gdE ((s1==s1)&&((r1==r1)&&((c1==c1)&&((fr1==fr1)&&((fc1==fc1)&&((false==false)&&true)))))) true<|gdC h1<|gdC h2 gdN
theorem pt11 (hk:Kn W0){s1 s93 s101:Bz}{a0 a1 a2 c1 r1:Int}{fc1 fr1:Bool}(h1:oC W0 150 [N78 a0 s101 a1 a2]<|N79 s1 r1 c1 fr1 fc1)(h2:oC W0 149 [.str s93]<|N80 a0 s101 a1 a2):cP W0 98 [.str s93] [] (N79 s1 r1 c1 fr1 fc1) []:=C3 hk Ns (ss0 2 [] 0 [] [(N80 a0 s101 a1 a2,none),(N79 s1 r1 c1 fr1 fc1,none)] []) Am<|gdC h1<|gdC h2 gdN
theorem pk12 (hk:Kn W0){s1 s2 s101 s102 s103:Bz}{a0 a1 a2 a3 a4 a5 a6 a7 c1 c2 c3 r1 r2 r3:Int}{fc1 fc2 fc3 fr1 fr2 fr3:Bool}(h1:oC W0 37 [N12 s2 r2 c2 fr2 fc2]<|.bool true)(h2:oC W0 37 [N27 r3 c3 fr3 fc3]<|.bool true)(h3:oC W0 37 [N12 s1 r1 c1 fr1 fc1]<|.bool true)(h4:oC W0 114 [.str s102]<|N14 s2 r2 c2 fr2 fc2)(h5:oC W0 114 [.str s103]<|N28 r3 c3 fr3 fc3)(h6:oC W0 114 [.str s101]<|N14 s1 r1 c1 fr1 fc1):cP W0 150 [N81 a0 a1 s101 a2 a3 s103 a4 a5 s102 a6 a7] [] (N82 s1 r1 c1 fr1 fc1 r3 c3 fr3 fc3 s2 r2 c2 fr2 fc2) []:=C3 hk Nu (ss0 67 [(true,20),(true,0),(true,54),(true,89),(true,0),(true,21),(true,15)] 65 [] [(N14 s1 r1 c1 fr1 fc1,none),(.bool true,none),(N28 r3 c3 fr3 fc3,none),(.bool true,none),(.bool true,none),(N14 s2 r2 c2 fr2 fc2,none),(.bool true,none),(.bool true,none),(.bool true,none),(.bool true,none)] [1,2,0,2,0,0,0,2,0,0]) Am<|gdE ((s2==s2)&&((r2==r2)&&((c2==c2)&&((fr2==fr2)&&((fc2==fc2)&&((false==false)&&true)))))) true<|gdC h1<|gdE ((([]:Bz)==([]:Bz))&&((r3==r3)&&((c3==c3)&&((fr3==fr3)&&((fc3==fc3)&&((false==false)&&true)))))) true<|gdE ((s1==s1)&&((r1==r1)&&((c1==c1)&&((fr1==fr1)&&((fc1==fc1)&&((false==false)&&true)))))) true<|gdC h2<|gdC h3<|gdE ((s2==s2)&&((r2==r2)&&((c2==c2)&&((fr2==fr2)&&((fc2==fc2)&&((false==false)&&true)))))) true<|gdC h1<|gdC h4<|gdE ((([]:Bz)==([]:Bz))&&((r3==r3)&&((c3==c3)&&((fr3==fr3)&&((fc3==fc3)&&((false==false)&&true)))))) true<|gdE ((s1==s1)&&((r1==r1)&&((c1==c1)&&((fr1==fr1)&&((fc1==fc1)&&((false==false)&&true)))))) true<|gdC h2<|gdC h3<|gdC h5<|gdE ((s1==s1)&&((r1==r1)&&((c1==c1)&&((fr1==fr1)&&((fc1==fc1)&&((false==false)&&true)))))) true<|gdC h3<|gdC h6 gdN
theorem pt12 (hk:Kn W0){s1 s2 s93 s101 s102 s103:Bz}{a0 a1 a2 a3 a4 a5 a6 a7 c1 c2 c3 r1 r2 r3:Int}{fc1 fc2 fc3 fr1 fr2 fr3:Bool}(h1:oC W0 150 [N81 a0 a1 s101 a2 a3 s103 a4 a5 s102 a6 a7]<|N82 s1 r1 c1 fr1 fc1 r3 c3 fr3 fc3 s2 r2 c2 fr2 fc2)(h2:oC W0 149 [.str s93]<|N83 a0 a1 s101 a2 a3 s103 a4 a5 s102 a6 a7):cP W0 98 [.str s93] [] (N82 s1 r1 c1 fr1 fc1 r3 c3 fr3 fc3 s2 r2 c2 fr2 fc2) []:=C3 hk Ns (ss0 2 [] 0 [] [(N83 a0 a1 s101 a2 a3 s103 a4 a5 s102 a6 a7,none),(N82 s1 r1 c1 fr1 fc1 r3 c3 fr3 fc3 s2 r2 c2 fr2 fc2,none)] []) Am<|gdC h1<|gdC h2 gdN
theorem pk13 (hk:Kn W0){s1 s101:Bz}{a0 a1 a2 c1 r1:Int}{fc1 fr1:Bool}(h1:oC W0 37 [N12 s1 r1 c1 fr1 fc1]<|.bool true)(h2:oC W0 114 [.str [114,97,116,101]]<|N53)(h3:oC W0 114 [.str s101]<|N14 s1 r1 c1 fr1 fc1):cP W0 150 [N84 a0 a1 s101 a2] [] (N85 s1 r1 c1 fr1 fc1) []:=C3 hk Nu (ss0 114 [(true,107),(true,15)] 27 [] [(N53,none),(N14 s1 r1 c1 fr1 fc1,none),(.bool true,none),(N53,none),(.bool true,none)] []) Am<|gdE ((s1==s1)&&((r1==r1)&&((c1==c1)&&((fr1==fr1)&&((fc1==fc1)&&((false==false)&&true)))))) true<|gdC h1<|gdC h2<|gdE ((s1==s1)&&((r1==r1)&&((c1==c1)&&((fr1==fr1)&&((fc1==fc1)&&((false==false)&&true)))))) true<|gdC h1<|gdC h3<|gdC h2 gdN
theorem pt13 (hk:Kn W0){s1 s93 s101:Bz}{a0 a1 a2 c1 r1:Int}{fc1 fr1:Bool}(h1:oC W0 150 [N84 a0 a1 s101 a2]<|N85 s1 r1 c1 fr1 fc1)(h2:oC W0 149 [.str s93]<|N86 a0 a1 s101 a2):cP W0 98 [.str s93] [] (N85 s1 r1 c1 fr1 fc1) []:=C3 hk Ns (ss0 2 [] 0 [] [(N86 a0 a1 s101 a2,none),(N85 s1 r1 c1 fr1 fc1,none)] []) Am<|gdC h1<|gdC h2 gdN
theorem pk14 (hk:Kn W0){s1 s101:Bz}{a0 a1 a2 c1 r1:Int}{fc1 fr1:Bool}(h1:oC W0 37 [N12 s1 r1 c1 fr1 fc1]<|.bool true)(h2:oC W0 114 [.str [79,119,110]]<|N53)(h3:oC W0 114 [.str s101]<|N14 s1 r1 c1 fr1 fc1):cP W0 150 [N87 a0 a1 s101 a2] [] (N88 s1 r1 c1 fr1 fc1) []:=C3 hk Nu (ss0 104 [(true,97),(true,15)] 27 [] [(N53,none),(N14 s1 r1 c1 fr1 fc1,none),(.bool true,none),(N53,none),(.bool true,none)] []) Am<|gdE ((s1==s1)&&((r1==r1)&&((c1==c1)&&((fr1==fr1)&&((fc1==fc1)&&((false==false)&&true)))))) true<|gdC h1<|gdC h2<|gdE ((s1==s1)&&((r1==r1)&&((c1==c1)&&((fr1==fr1)&&((fc1==fc1)&&((false==false)&&true)))))) true<|gdC h1<|gdC h3<|gdC h2 gdN
theorem pt14 (hk:Kn W0){s1 s93 s101:Bz}{a0 a1 a2 c1 r1:Int}{fc1 fr1:Bool}(h1:oC W0 150 [N87 a0 a1 s101 a2]<|N88 s1 r1 c1 fr1 fc1)(h2:oC W0 149 [.str s93]<|N89 a0 a1 s101 a2):cP W0 98 [.str s93] [] (N88 s1 r1 c1 fr1 fc1) []:=C3 hk Ns (ss0 2 [] 0 [] [(N89 a0 a1 s101 a2,none),(N88 s1 r1 c1 fr1 fc1,none)] []) Am<|gdC h1<|gdC h2 gdN
theorem pk15 (hk:Kn W0){s1 s101:Bz}{a0 a1 a2 a3 a4 a5 c1 r1:Int}{fc1 fr1:Bool}(h1:oC W0 37 [N12 s1 r1 c1 fr1 fc1]<|.bool true)(h2:oC W0 114 [.str [84,97,98]]<|N53)(h3:oC W0 114 [.str s101]<|N14 s1 r1 c1 fr1 fc1):cP W0 150 [N90 a0 a1 a2 a3 a4 s101 a5] [] (N91 s1 r1 c1 fr1 fc1) []:=C3 hk Nu (ss0 189 [(true,166),(true,15)] 56 [] [(N53,none),(N14 s1 r1 c1 fr1 fc1,none),(.bool true,none),(N53,none),(.bool true,none)] [0,2,0,0]) Am<|gdE ((s1==s1)&&((r1==r1)&&((c1==c1)&&((fr1==fr1)&&((fc1==fc1)&&((false==false)&&true)))))) true<|gdC h1<|gdC h2<|gdE ((s1==s1)&&((r1==r1)&&((c1==c1)&&((fr1==fr1)&&((fc1==fc1)&&((false==false)&&true)))))) true<|gdC h1<|gdC h3<|gdC h2 gdN
theorem pt15 (hk:Kn W0){s1 s93 s101:Bz}{a0 a1 a2 a3 a4 a5 c1 r1:Int}{fc1 fr1:Bool}(h1:oC W0 150 [N90 a0 a1 a2 a3 a4 s101 a5]<|N91 s1 r1 c1 fr1 fc1)(h2:oC W0 149 [.str s93]<|N92 a0 a1 a2 a3 a4 s101 a5):cP W0 98 [.str s93] [] (N91 s1 r1 c1 fr1 fc1) []:=C3 hk Ns (ss0 2 [] 0 [] [(N92 a0 a1 a2 a3 a4 s101 a5,none),(N91 s1 r1 c1 fr1 fc1,none)] []) Am<|gdC h1<|gdC h2 gdN
end Go.Abs
namespace Go.Abs
open Go.Proofs Go.RowKit
set_option maxRecDepth 100000
variable {W0 : World}
theorem clK (hk:Kn W0){f:Nat}{args:List AVal}{v:AVal}(h:Ju [] 60 f args []=some (v,[]))(h1:Ab 0 args=true)(h2:blw 0 v=true):cP W0 f args [] v []:=(E9 hk Dj h h1 h2).2.2
theorem rd0 (hk:Kn W0){p:Bz}{sp:Bz}{rp cp:Int}{frp fcp:Bool}(hp:B7 W0 p sp rp cp frp fcp)(ha:asc (bd0 p)=true)(hl:(bd0 p).length≤200):cP W0 98 [.str<|bd0 p] [] (N21 sp rp cp frp fcp) []:=pt0 hk (pk0 hk hp.right (Y0 hk).2.2 hp.rd)<|Ft (grK hk) (lx0 hk hp ha<|Nat.le_trans hl V) (λe=>by cases e) hl
theorem rd1 (hk:Kn W0){p q:Bz}{sp:Bz}{rp cp:Int}{frp fcp:Bool}(hp:B7 W0 p sp rp cp frp fcp){sq:Bz}{rq cq:Int}{frq fcq:Bool}(hq:B7 W0 q sq rq cq frq fcq)(ha:asc (bd1 p q)=true)(hl:(bd1 p q).length≤200):cP W0 98 [.str<|bd1 p q] [] (N25 sp rp cp frp fcp sq rq cq frq fcq) []:=pt1 hk (pk1 hk hq.right hp.right hq.rd hp.rd)<|Ft (grK hk) (lx1 hk hp hq ha<|Nat.le_trans hl V) (λe=>by cases e) hl
theorem rd2 (hk:Kn W0){p u:Bz}{sp:Bz}{rp cp:Int}{frp fcp:Bool}(hp:B7 W0 p sp rp cp frp fcp){ru cu:Int}{fru fcu:Bool}(hu:B7 W0 u [] ru cu fru fcu)(ha:asc (bd2 p u)=true)(hl:(bd2 p u).length≤200):cP W0 98 [.str<|bd2 p u] [] (N34 sp rp cp frp fcp ru cu fru fcu) []:=pt2 hk (pk2 hk hu.right hp.right hu.rd hp.rd)<|Ft (grK hk) (lx2 hk hp hu ha<|Nat.le_trans hl V) (λe=>by cases e) hl
theorem rd3 (hk:Kn W0){p q:Bz}{sp:Bz}{rp cp:Int}{frp fcp:Bool}(hp:B7 W0 p sp rp cp frp fcp){sq:Bz}{rq cq:Int}{frq fcq:Bool}(hq:B7 W0 q sq rq cq frq fcq)(ha:asc (bd3 p q)=true)(hl:(bd3 p q).length≤200):cP W0 98 [.str<|bd3 p q] [] (N43 sp rp cp frp fcp sq rq cq frq fcq) []:=pt3 hk (pk3 hk hq.right hp.right (dgk1 hk).2.2 hq.rd (A26 hk).2.2 hp.rd)<|Ft (grK hk) (lx3 hk hp hq ha<|Nat.le_trans hl V) (λe=>by cases e) hl
theorem rd4 (hk:Kn W0){p:Bz}{sp:Bz}{rp cp:Int}{frp fcp:Bool}(hp:B7 W0 p sp rp cp frp fcp)(ha:asc (bd4 p)=true)(hl:(bd4 p).length≤200):cP W0 98 [.str<|bd4 p] [] (N48 sp rp cp frp fcp) []:=pt4 hk (pk4 hk hp.right hp.rd (dgk9 hk).2.2 (dgk7 hk).2.2 (A26 hk).2.2 (Y0 hk).2.2)<|Ft (grK hk) (lx4 hk hp ha<|Nat.le_trans hl V) (λe=>by cases e) hl
theorem rd5 (hk:Kn W0){p u:Bz}{sp:Bz}{rp cp:Int}{frp fcp:Bool}(hp:B7 W0 p sp rp cp frp fcp){ru cu:Int}{fru fcu:Bool}(hu:B7 W0 u [] ru cu fru fcu)(ha:asc (bd5 p u)=true)(hl:(bd5 p u).length≤200):cP W0 98 [.str<|bd5 p u] [] (N51 sp rp cp frp fcp ru cu fru fcu) []:=pt5 hk (pk5 hk hu.right hp.right (A26 hk).2.2 hu.rd hp.rd)<|Ft (grK hk) (lx5 hk hp hu ha<|Nat.le_trans hl V) (λe=>by cases e) hl
theorem rd6 (hk:Kn W0){p q:Bz}{sp:Bz}{rp cp:Int}{frp fcp:Bool}(hp:B7 W0 p sp rp cp frp fcp){sq:Bz}{rq cq:Int}{frq fcq:Bool}(hq:B7 W0 q sq rq cq frq fcq)(ha:asc (bd6 p q)=true)(hl:(bd6 p q).length≤200):cP W0 98 [.str<|bd6 p q] [] (N58 sp rp cp frp fcp sq rq cq frq fcq) []:=pt6 hk (pk6 hk hq.right (nmk1 hk).2.2 hp.right hq.rd hp.rd)<|Ft (grK hk) (lx6 hk hp hq ha<|Nat.le_trans hl V) (λe=>by cases e) hl
theorem rd7 (hk:Kn W0){p:Bz}{sp:Bz}{rp cp:Int}{frp fcp:Bool}(hp:B7 W0 p sp rp cp frp fcp)(ha:asc (bd7 p)=true)(hl:(bd7 p).length≤200):cP W0 98 [.str<|bd7 p] [] (N65 sp rp cp frp fcp) []:=pt7 hk (pk7 hk hp.right (Abx hk).2.2 (nmk2 hk).2.2 hp.rd (Y0 hk).2.2)<|Ft (grK hk) (lx7 hk hp ha<|Nat.le_trans hl V) (λe=>by cases e) hl
theorem rd8 (hk:Kn W0){p:Bz}{sp:Bz}{rp cp:Int}{frp fcp:Bool}(hp:B7 W0 p sp rp cp frp fcp)(ha:asc (bd8 p)=true)(hl:(bd8 p).length≤200):cP W0 98 [.str<|bd8 p] [] (N68 sp rp cp frp fcp) []:=pt8 hk (pk8 hk hp.right hp.rd)<|Ft (grK hk) (lx8 hk hp ha<|Nat.le_trans hl V) (λe=>by cases e) hl
theorem rd9 (hk:Kn W0){p:Bz}{sp:Bz}{rp cp:Int}{frp fcp:Bool}(hp:B7 W0 p sp rp cp frp fcp)(ha:asc (bd9 p)=true)(hl:(bd9 p).length≤200):cP W0 98 [.str<|bd9 p] [] (N71 sp rp cp frp fcp) []:=pt9 hk (pk9 hk hp.right hp.rd (Y0 hk).2.2)<|Ft (grK hk) (lx9 hk hp ha<|Nat.le_trans hl V) (λe=>by cases e) hl
theorem rd10 (hk:Kn W0){p:Bz}{sp:Bz}{rp cp:Int}{frp fcp:Bool}(hp:B7 W0 p sp rp cp frp fcp)(ha:asc (Vb p)=true)(hl:(Vb p).length≤200):cP W0 98 [.str<|Vb p] [] (N76 sp rp cp frp fcp) []:=pt10 hk (pk10 hk hp.right (cK hk) hp.rd<|cK hk)<|Ft (grK hk) (lx10 hk hp ha<|Nat.le_trans hl V) (λe=>by cases e) hl
theorem rd11 (hk:Kn W0){p:Bz}{sp:Bz}{rp cp:Int}{frp fcp:Bool}(hp:B7 W0 p sp rp cp frp fcp)(ha:asc (Vd p)=true)(hl:(Vd p).length≤200):cP W0 98 [.str<|Vd p] [] (N79 sp rp cp frp fcp) []:=pt11 hk (pk11 hk hp.right hp.rd)<|Ft (grK hk) (lx11 hk hp ha<|Nat.le_trans hl V) (λe=>by cases e) hl
theorem rd12 (hk:Kn W0){p q u:Bz}{sp:Bz}{rp cp:Int}{frp fcp:Bool}(hp:B7 W0 p sp rp cp frp fcp){sq:Bz}{rq cq:Int}{frq fcq:Bool}(hq:B7 W0 q sq rq cq frq fcq){ru cu:Int}{fru fcu:Bool}(hu:B7 W0 u [] ru cu fru fcu)(ha:asc (Va p q u)=true)(hl:(Va p q u).length≤200):cP W0 98 [.str<|Va p q u] [] (N82 sp rp cp frp fcp ru cu fru fcu sq rq cq frq fcq) []:=pt12 hk (pk12 hk hq.right hu.right hp.right hq.rd hu.rd hp.rd)<|Ft (grK hk) (lx12 hk hp hq hu ha<|Nat.le_trans hl V) (λe=>by cases e) hl
theorem rd13 (hk:Kn W0){p:Bz}{sp:Bz}{rp cp:Int}{frp fcp:Bool}(hp:B7 W0 p sp rp cp frp fcp)(ha:asc (V4 p)=true)(hl:(V4 p).length≤200):cP W0 98 [.str<|V4 p] [] (N85 sp rp cp frp fcp) []:=pt13 hk (pk13 hk hp.right (nmk6 hk).2.2 hp.rd)<|Ft (grK hk) (lx13 hk hp ha<|Nat.le_trans hl V) (λe=>by cases e) hl
theorem rd14 (hk:Kn W0){p:Bz}{sp:Bz}{rp cp:Int}{frp fcp:Bool}(hp:B7 W0 p sp rp cp frp fcp)(ha:asc (V7 p)=true)(hl:(V7 p).length≤200):cP W0 98 [.str<|V7 p] [] (N88 sp rp cp frp fcp) []:=pt14 hk (pk14 hk hp.right (nmk7 hk).2.2 hp.rd)<|Ft (grK hk) (lx14 hk hp ha<|Nat.le_trans hl V) (λe=>by cases e) hl
theorem rd15 (hk:Kn W0){p:Bz}{sp:Bz}{rp cp:Int}{frp fcp:Bool}(hp:B7 W0 p sp rp cp frp fcp)(ha:asc (Rf p)=true)(hl:(Rf p).length≤200):cP W0 98 [.str<|Rf p] [] (N91 sp rp cp frp fcp) []:=pt15 hk (pk15 hk hp.right (nmk5 hk).2.2 hp.rd)<|Ft (grK hk) (lx15 hk hp ha<|Nat.le_trans hl V) (λe=>by cases e) hl
end Go.Abs
namespace Go.Abs
open Go.Proofs Go.RowKit
set_option maxRecDepth 100000
variable {W0 : World} {G : List (Nat × AVal)}
set_option maxHeartbeats 2000000
end Go.Abs
namespace Go.Abs
open Go.Proofs Go.RowKit
set_option maxRecDepth 100000
variable {W0 : World} {G : List (Nat × AVal)}
theorem M3 (hg:hGr W0 G){c:Int}{n:Nat}(h1':-9223372036854775808≤c)(h2':c≤9223372036854775807)(hn:0<n):cP W0 15 [.int .i64 c,.int .i64 (n:Nat)] [] (.int .i64 (B8 c n:Nat)) []:=by
 have hnn:(1:Int)≤(n:Nat)*(n:Nat):=by have:1*1≤n*n:=Nat.mul_le_mul hn hn;omega
 refine goA 15 13 ?_;refine sA<|lV Z<|ln<|sa<|sA<|lV Z ?_;refine lB Z Z O (λh1=>?_)<|λh1=>?_
 ·have hc:c<0:=by grind
  refine ln<|aT Z<|oA<|lV Z<|lKv (v:=.int .i64<|c+1) Z Z (by simp_all[Ag]) (congrArg (AVal.int .i64)<|w64 Y Y)<|lKv (v:=.int .i64<|-(c+1)) Z Z O (congrArg (AVal.int .i64) (by grind[w64]))<|lV Z<|ln<|sA<|lV Z<|lV Z<|lKv (v:=.int .i64 (B8 c n:Nat)) Z Z (by simp_all[Ag]) (congrArg (AVal.int .i64) (by grind[pkA]))<|lV Z<|ln ?_;exact ExA.ret<|A6 O Z Z Z
 ·have hc:¬c<0:=by grind
  refine ln<|aF Z<|kA<|sA<|lV Z<|lV Z<|lKv (v:=.int .i64 (B8 c n:Nat)) Z Z (by simp_all[Ag]) (congrArg (AVal.int .i64) (by grind[pkB]))<|lV Z<|ln ?_;exact ExA.ret<|A6 O Z Z Z
theorem F4 (hg:hGr W0 G){c:Int}{n:Nat}(h1:-9223372036854775808≤c)(h2:c≤9223372036854775807)(hn:0<n)(H:Hz):cP W0 15 [.int .i64 c,.int .i64 (n:Nat)] H (.int .i64 (B8 c n:Nat)) H:=A5.pure Z Z (M3 hg h1 h2 hn) H
theorem areaP (hg:hGr W0 G){p u:Bz}{A0 A1 A2 B0 B1 B2 n r3 c3:Int}(hA:∀H,cP W0 57 [.agg [.int .i64 A0,.int .i64 A1,.int .i64 A2],.int .i64 n,.bool false] H (.str p) H)(h8:∀H,cP W0 15 [.int .i64 B0,.int .i64 8] H (.int .i64 r3) H)(h5:∀H,cP W0 15 [.int .i64 B1,.int .i64 5] H (.int .i64 c3) H)(hT:∀H,cP W0 91 [.agg [.str [],.int .i64 r3,.int .i64 c3,.bool false,.bool false,.bool false]] H (.tup [.str u,.int .i64 0]) H)(hp:p.length≤100)(hu:u.length≤100):cP W0 58 [.agg [.int .i64 A0,.int .i64 A1,.int .i64 A2],.agg [.int .i64 B0,.int .i64 B1,.int .i64 B2],.int .i64 n] [] (.str<|(p++[58])++u) []:=by refine goA 58 28 ?_;refine sA<|lV (v:=.ptr 0 0) Z<|lV (v:=.ptr 1 0) Z<|lV Z<|ln<|sA<|lV Z<|lV Z<|lC Z (hA _)<|lV Z<|ln<|sa ?_;refine ExA.draw hg ?_;refine Ak Z Z (by simp_all[Ag])<|qV Z<|By Z Z (h8 _)<|Ak Z Z (by simp_all[Ag])<|qV Z<|By Z Z (h5 _)<|qV Z<|By Z Z (hT _)<|qV Z<|qV Z<|qV Z<|qV Z<|qV Z<|Dl<|ExA.seq<|ExA.ops hg<|A9 Z Z O<|A9 Z Z bY6<|A9 Z Z O<|A9 Z Z bY6<|A9 Z Z O<|Cm<|?_;exact ExA.ret<|A4 O Z Z 100 Z Z
end Go.Abs
namespace Go.Abs
open Go.Proofs Go.RowKit
set_option maxRecDepth 10000000
variable {W0 : World}
def V3 (f:Nat):Bool:=cond (Nat.beq f 15) true<|cond (Nat.beq f 16) true<|Nat.beq f 91
theorem pl00 (hk:Kn W0){s101:Bz}{a1 a2 a3 a4 a51 a52:Int}(h1:oC W0 91 [N0 a52 a51]<|.tup [.str s101,zI])(h2:oC W0 15 [jI a3,jI 3] zI)(h3:oC W0 15 [jI a3,jI 4] zI)(h4:oC W0 15 [jI a2,jI 5]<|jI a51)(h5:oC W0 15 [jI a1,jI 8]<|jI a52):cP W0 57 [N93 a1 a2 a3,jI a4,zB] [] (.str s101) []:=C3 hk V3 (ss0 3 [] 5 [] [(jI a52,none),(jI a51,none),(zI,none),(zI,none),(zI,none),(.tup [.str s101,zI],none)] [1,1,2,1,2,1,2,2]) Am<|gdC h1<|gdC h2<|gdC h3<|gdC h3<|gdC h4<|gdC h5 gdN
theorem pl01 (hk:Kn W0){s101:Bz}{a1 a2 a3 a4 a51 a52:Int}(h1:oC W0 91 [N0 a52 a51]<|.tup [.str s101,zI])(h2:oC W0 15 [jI a3,jI 3]<|jI 1)(h3:oC W0 15 [jI a3,jI 4] zI)(h4:oC W0 15 [jI a2,jI 5]<|jI a51)(h5:oC W0 15 [jI a1,jI 8]<|jI a52):cP W0 57 [N93 a1 a2 a3,jI a4,zB] [] (.str s101) []:=C3 hk V3 (ss0 3 [] 5 [] [(jI a52,none),(jI a51,none),(zI,none),(zI,none),(jI 1,none),(.tup [.str s101,zI],none)] [1,1,2,1,2,1,2,2]) Am<|gdC h1<|gdC h2<|gdC h3<|gdC h3<|gdC h4<|gdC h5 gdN
theorem pl02 (hk:Kn W0){s1 s101:Bz}{a1 a2 a3 a4 a50 a51 a52:Int}(h1:oC W0 91 [N94 s1 a52 a51]<|.tup [.str s101,zI])(h2:oC W0 16 [jI a50]<|.str s1)(h3:oC W0 15 [jI a3,jI a4]<|jI a50)(h4:oC W0 15 [jI a3,jI 3]<|jI 2)(h5:oC W0 15 [jI a3,jI 4] zI)(h6:oC W0 15 [jI a2,jI 5]<|jI a51)(h7:oC W0 15 [jI a1,jI 8]<|jI a52):cP W0 57 [N93 a1 a2 a3,jI a4,zB] [] (.str s101) []:=C3 hk V3 (ss0 3 [] 6 [] [(jI a52,none),(jI a51,none),(zI,none),(zI,none),(jI 2,none),(jI a50,none),(.str s1,none),(.tup [.str s101,zI],none)] [1,1,2,1,2,1,2,2]) Am<|gdC h1<|gdC h2<|gdC h3<|gdC h4<|gdC h5<|gdC h5<|gdC h6<|gdC h7 gdN
theorem pl10 (hk:Kn W0){s101:Bz}{a1 a2 a3 a4 a51 a52:Int}(h1:oC W0 91 [N1 a52 a51]<|.tup [.str s101,zI])(h2:oC W0 15 [jI a3,jI 3] zI)(h3:oC W0 15 [jI a3,jI 4]<|jI 1)(h4:oC W0 15 [jI a2,jI 5]<|jI a51)(h5:oC W0 15 [jI a1,jI 8]<|jI a52):cP W0 57 [N93 a1 a2 a3,jI a4,zB] [] (.str s101) []:=C3 hk V3 (ss0 3 [] 5 [] [(jI a52,none),(jI a51,none),(jI 1,none),(jI 1,none),(zI,none),(.tup [.str s101,zI],none)] [1,1,2,1,2,1,2,2]) Am<|gdC h1<|gdC h2<|gdC h3<|gdC h3<|gdC h4<|gdC h5 gdN
theorem pl11 (hk:Kn W0){s101:Bz}{a1 a2 a3 a4 a51 a52:Int}(h1:oC W0 91 [N1 a52 a51]<|.tup [.str s101,zI])(h2:oC W0 15 [jI a3,jI 3]<|jI 1)(h3:oC W0 15 [jI a3,jI 4]<|jI 1)(h4:oC W0 15 [jI a2,jI 5]<|jI a51)(h5:oC W0 15 [jI a1,jI 8]<|jI a52):cP W0 57 [N93 a1 a2 a3,jI a4,zB] [] (.str s101) []:=C3 hk V3 (ss0 3 [] 5 [] [(jI a52,none),(jI a51,none),(jI 1,none),(jI 1,none),(jI 1,none),(.tup [.str s101,zI],none)] [1,1,2,1,2,1,2,2]) Am<|gdC h1<|gdC h2<|gdC h3<|gdC h3<|gdC h4<|gdC h5 gdN
theorem pl12 (hk:Kn W0){s1 s101:Bz}{a1 a2 a3 a4 a50 a51 a52:Int}(h1:oC W0 91 [.agg [.str s1,jI a52,jI a51,.bool true,zB,zB]]<|.tup [.str s101,zI])(h2:oC W0 16 [jI a50]<|.str s1)(h3:oC W0 15 [jI a3,jI a4]<|jI a50)(h4:oC W0 15 [jI a3,jI 3]<|jI 2)(h5:oC W0 15 [jI a3,jI 4]<|jI 1)(h6:oC W0 15 [jI a2,jI 5]<|jI a51)(h7:oC W0 15 [jI a1,jI 8]<|jI a52):cP W0 57 [N93 a1 a2 a3,jI a4,zB] [] (.str s101) []:=C3 hk V3 (ss0 3 [] 6 [] [(jI a52,none),(jI a51,none),(jI 1,none),(jI 1,none),(jI 2,none),(jI a50,none),(.str s1,none),(.tup [.str s101,zI],none)] [1,1,2,1,2,1,2,2]) Am<|gdC h1<|gdC h2<|gdC h3<|gdC h4<|gdC h5<|gdC h5<|gdC h6<|gdC h7 gdN
theorem pl20 (hk:Kn W0){s101:Bz}{a1 a2 a3 a4 a51 a52:Int}(h1:oC W0 91 [N2 a52 a51]<|.tup [.str s101,zI])(h2:oC W0 15 [jI a3,jI 3] zI)(h3:oC W0 15 [jI a3,jI 4]<|jI 2)(h4:oC W0 15 [jI a2,jI 5]<|jI a51)(h5:oC W0 15 [jI a1,jI 8]<|jI a52):cP W0 57 [N93 a1 a2 a3,jI a4,zB] [] (.str s101) []:=C3 hk V3 (ss0 3 [] 5 [] [(jI a52,none),(jI a51,none),(jI 2,none),(jI 2,none),(zI,none),(.tup [.str s101,zI],none)] [1,1,2,1,2,1,2,2]) Am<|gdC h1<|gdC h2<|gdC h3<|gdC h3<|gdC h4<|gdC h5 gdN
theorem pl21 (hk:Kn W0){s101:Bz}{a1 a2 a3 a4 a51 a52:Int}(h1:oC W0 91 [N2 a52 a51]<|.tup [.str s101,zI])(h2:oC W0 15 [jI a3,jI 3]<|jI 1)(h3:oC W0 15 [jI a3,jI 4]<|jI 2)(h4:oC W0 15 [jI a2,jI 5]<|jI a51)(h5:oC W0 15 [jI a1,jI 8]<|jI a52):cP W0 57 [N93 a1 a2 a3,jI a4,zB] [] (.str s101) []:=C3 hk V3 (ss0 3 [] 5 [] [(jI a52,none),(jI a51,none),(jI 2,none),(jI 2,none),(jI 1,none),(.tup [.str s101,zI],none)] [1,1,2,1,2,1,2,2]) Am<|gdC h1<|gdC h2<|gdC h3<|gdC h3<|gdC h4<|gdC h5 gdN
theorem pl22 (hk:Kn W0){s1 s101:Bz}{a1 a2 a3 a4 a50 a51 a52:Int}(h1:oC W0 91 [.agg [.str s1,jI a52,jI a51,zB,.bool true,zB]]<|.tup [.str s101,zI])(h2:oC W0 16 [jI a50]<|.str s1)(h3:oC W0 15 [jI a3,jI a4]<|jI a50)(h4:oC W0 15 [jI a3,jI 3]<|jI 2)(h5:oC W0 15 [jI a3,jI 4]<|jI 2)(h6:oC W0 15 [jI a2,jI 5]<|jI a51)(h7:oC W0 15 [jI a1,jI 8]<|jI a52):cP W0 57 [N93 a1 a2 a3,jI a4,zB] [] (.str s101) []:=C3 hk V3 (ss0 3 [] 6 [] [(jI a52,none),(jI a51,none),(jI 2,none),(jI 2,none),(jI 2,none),(jI a50,none),(.str s1,none),(.tup [.str s101,zI],none)] [1,1,2,1,2,1,2,2]) Am<|gdC h1<|gdC h2<|gdC h3<|gdC h4<|gdC h5<|gdC h5<|gdC h6<|gdC h7 gdN
theorem pl30 (hk:Kn W0){s101:Bz}{a1 a2 a3 a4 a51 a52:Int}(h1:oC W0 91 [N0 a52 a51]<|.tup [.str s101,zI])(h2:oC W0 15 [jI a3,jI 3] zI)(h3:oC W0 15 [jI a3,jI 4]<|jI 3)(h4:oC W0 15 [jI a2,jI 5]<|jI a51)(h5:oC W0 15 [jI a1,jI 8]<|jI a52):cP W0 57 [N93 a1 a2 a3,jI a4,zB] [] (.str s101) []:=C3 hk V3 (ss0 3 [] 5 [] [(jI a52,none),(jI a51,none),(jI 3,none),(jI 3,none),(zI,none),(.tup [.str s101,zI],none)] [1,1,2,1,2,1,2,2]) Am<|gdC h1<|gdC h2<|gdC h3<|gdC h3<|gdC h4<|gdC h5 gdN
theorem pl31 (hk:Kn W0){s101:Bz}{a1 a2 a3 a4 a51 a52:Int}(h1:oC W0 91 [N0 a52 a51]<|.tup [.str s101,zI])(h2:oC W0 15 [jI a3,jI 3]<|jI 1)(h3:oC W0 15 [jI a3,jI 4]<|jI 3)(h4:oC W0 15 [jI a2,jI 5]<|jI a51)(h5:oC W0 15 [jI a1,jI 8]<|jI a52):cP W0 57 [N93 a1 a2 a3,jI a4,zB] [] (.str s101) []:=C3 hk V3 (ss0 3 [] 5 [] [(jI a52,none),(jI a51,none),(jI 3,none),(jI 3,none),(jI 1,none),(.tup [.str s101,zI],none)] [1,1,2,1,2,1,2,2]) Am<|gdC h1<|gdC h2<|gdC h3<|gdC h3<|gdC h4<|gdC h5 gdN
theorem pl32 (hk:Kn W0){s1 s101:Bz}{a1 a2 a3 a4 a50 a51 a52:Int}(h1:oC W0 91 [N94 s1 a52 a51]<|.tup [.str s101,zI])(h2:oC W0 16 [jI a50]<|.str s1)(h3:oC W0 15 [jI a3,jI a4]<|jI a50)(h4:oC W0 15 [jI a3,jI 3]<|jI 2)(h5:oC W0 15 [jI a3,jI 4]<|jI 3)(h6:oC W0 15 [jI a2,jI 5]<|jI a51)(h7:oC W0 15 [jI a1,jI 8]<|jI a52):cP W0 57 [N93 a1 a2 a3,jI a4,zB] [] (.str s101) []:=C3 hk V3 (ss0 3 [] 6 [] [(jI a52,none),(jI a51,none),(jI 3,none),(jI 3,none),(jI 2,none),(jI a50,none),(.str s1,none),(.tup [.str s101,zI],none)] [1,1,2,1,2,1,2,2]) Am<|gdC h1<|gdC h2<|gdC h3<|gdC h4<|gdC h5<|gdC h5<|gdC h6<|gdC h7 gdN
def opqK (f:Nat):Bool:=Nat.beq f 15
theorem ti0 (hk:Kn W0){a1:Int}(h1:oC W0 15 [jI a1,jI 3] zI):cP W0 16 [jI a1] [] (.str [83]) []:=C3 hk opqK (ss0 0 [] 1 [] [(zI,none)] []) Am<|gdC h1 gdN
theorem ti1 (hk:Kn W0){a1:Int}(h1:oC W0 15 [jI a1,jI 3]<|jI 1):cP W0 16 [jI a1] [] (.str [84,119,111,32,120]) []:=C3 hk opqK (ss0 0 [] 1 [] [(jI 1,none)] []) Am<|gdC h1 gdN
theorem ti2 (hk:Kn W0){a1:Int}(h1:oC W0 15 [jI a1,jI 3]<|jI 2):cP W0 16 [jI a1] [] (.str [116,104,105,114,100]) []:=C3 hk opqK (ss0 0 [] 1 [] [(jI 2,none)] []) Am<|gdC h1 gdN
end Go.Abs
namespace Go.Abs
open Go.Proofs Go.RowKit
set_option maxRecDepth 100000
variable {W0 : World}
def Ow (s:Bz):Prop:=s=[83]∨s=[84,119,111,32,120]∨s=[116,104,105,114,100]
def Sh (s:Bz):Prop:=s=[]∨Ow s
def ttl :Nat→Bz
 |0=>[83]|1=>[84,119,111,32,120]|_=>[116,104,105,114,100]
theorem J3 (m:Nat):Ow (ttl m):=by match m with|0=>exact .inl rfl|1=>exact .inr (.inl rfl)|_+2=>exact .inr<|.inr rfl
theorem Yz {m n:Nat}(h:m<n):B8 ((m:Nat):Int) n=m:=by simp_all[B8,if_neg,Nat.mod_eq_of_lt]
theorem Acu (hk:Kn W0){a:Int}(ha:i64 a):cP W0 16 [.int .i64 a] [] (.str<|ttl<|B8 a 3) []:=by
 have hg:=grK hk;have h3:=Bm (c:=a) (n:=3) V;have c:=M3 hg (c:=a) (n:=3) ha.1 ha.2 V;have:B8 a 3=0∨B8 a 3=1∨B8 a 3=2:=Y;rcases this with h|h|h;·rw[h]at c⊢;exact ti0 hk c
 ·rw[h]at c⊢;exact ti1 hk c
 ·rw[h]at c⊢;exact ti2 hk c
structure Pl (W0:World)(A0 A1 A2 n:Int)(p sh:Bz)(rw cl:Int)(fr fc:Bool):Prop where
 c:cP W0 57 [.agg [.int .i64 A0,.int .i64 A1,.int .i64 A2],.int .i64 n,.bool false] [] (.str p) []
 r:B7 W0 p sh rw cl fr fc
 s:Sh sh
theorem Aa4 (hk:Kn W0){A0 A1 A2:Int}{n:Nat}(h0:i64 A0)(h1:i64 A1)(h2:i64 A2)(hn:1≤n∧n≤3):∃p sh rw cl fr fc,Pl W0 A0 A1 A2 (n:Nat) p sh rw cl fr fc:=by
 have hg:=grK hk;have c8:=M3 hg (c:=A0) (n:=8) h0.1 h0.2 V;have c5:=M3 hg (c:=A1) (n:=5) h1.1 h1.2 V;have c4:=M3 hg (c:=A2) (n:=4) h2.1 h2.2 V;have c3:=M3 hg (c:=A2) (n:=3) h2.1 h2.2 V;have cn:=M3 hg (c:=A2) (n:=n) h2.1 h2.2 Y;have l8:=Bm (c:=A0) (n:=8) V;have l5:=Bm (c:=A1) (n:=5) V;have l4:=Bm (c:=A2) (n:=4) V;have l3:=Bm (c:=A2) (n:=3) V;have ln:=Bm (c:=A2) (n:=n) Y;have ht:=Acu hk (a:=((B8 A2 n:Nat):Int)) ⟨Y,Y⟩;rw[Yz Y]at ht;generalize B8 A2 n=ms at ln cn ht;have e4:B8 A2 4=0∨B8 A2 4=1∨B8 A2 4=2∨B8 A2 4=3:=Y;have e3:B8 A2 3=0∨B8 A2 3=1∨B8 A2 3=2:=Y;have em:ms=0∨ms=1∨ms=2:=Y;rcases e4 with e4|e4|e4|e4<;>rw[e4]at c4<;>rcases e3 with e3|e3|e3<;>rw[e3]at c3;·exact⟨_,_,_,_,_,_,pl00 hk (Aao hk l5 l8) c3 c4 c5 c8,A7p hk l5 l8,.inl Z⟩
 ·exact⟨_,_,_,_,_,_,pl01 hk (Aao hk l5 l8) c3 c4 c5 c8,A7p hk l5 l8,.inl Z⟩
 ·rcases em with rfl|rfl|rfl;·exact⟨_,_,_,_,_,_,pl02 hk (tx10 hk l5 l8) ht cn c3 c4 c5 c8,rf10 hk l5 l8,.inr<|J3 0⟩
  ·exact⟨_,_,_,_,_,_,pl02 hk (tx20 hk l5 l8) ht cn c3 c4 c5 c8,rf20 hk l5 l8,.inr<|J3 1⟩
  ·exact⟨_,_,_,_,_,_,pl02 hk (tx30 hk l5 l8) ht cn c3 c4 c5 c8,rf30 hk l5 l8,.inr<|J3 2⟩
 ·exact⟨_,_,_,_,_,_,pl10 hk (tx01 hk l5 l8) c3 c4 c5 c8,rf01 hk l5 l8,.inl Z⟩
 ·exact⟨_,_,_,_,_,_,pl11 hk (tx01 hk l5 l8) c3 c4 c5 c8,rf01 hk l5 l8,.inl Z⟩
 ·rcases em with rfl|rfl|rfl;·exact⟨_,_,_,_,_,_,pl12 hk (tx11 hk l5 l8) ht cn c3 c4 c5 c8,rf11 hk l5 l8,.inr<|J3 0⟩
  ·exact⟨_,_,_,_,_,_,pl12 hk (tx21 hk l5 l8) ht cn c3 c4 c5 c8,rf21 hk l5 l8,.inr<|J3 1⟩
  ·exact⟨_,_,_,_,_,_,pl12 hk (tx31 hk l5 l8) ht cn c3 c4 c5 c8,rf31 hk l5 l8,.inr<|J3 2⟩
 ·exact⟨_,_,_,_,_,_,pl20 hk (tx02 hk l5 l8) c3 c4 c5 c8,rf02 hk l5 l8,.inl Z⟩
 ·exact⟨_,_,_,_,_,_,pl21 hk (tx02 hk l5 l8) c3 c4 c5 c8,rf02 hk l5 l8,.inl Z⟩
 ·rcases em with rfl|rfl|rfl;·exact⟨_,_,_,_,_,_,pl22 hk (tx12 hk l5 l8) ht cn c3 c4 c5 c8,rf12 hk l5 l8,.inr<|J3 0⟩
  ·exact⟨_,_,_,_,_,_,pl22 hk (tx22 hk l5 l8) ht cn c3 c4 c5 c8,rf22 hk l5 l8,.inr<|J3 1⟩
  ·exact⟨_,_,_,_,_,_,pl22 hk (tx32 hk l5 l8) ht cn c3 c4 c5 c8,rf32 hk l5 l8,.inr<|J3 2⟩
 ·exact⟨_,_,_,_,_,_,pl30 hk (Aao hk l5 l8) c3 c4 c5 c8,A7p hk l5 l8,.inl Z⟩
 ·exact⟨_,_,_,_,_,_,pl31 hk (Aao hk l5 l8) c3 c4 c5 c8,A7p hk l5 l8,.inl Z⟩
 ·rcases em with rfl|rfl|rfl;·exact⟨_,_,_,_,_,_,pl32 hk (tx10 hk l5 l8) ht cn c3 c4 c5 c8,rf10 hk l5 l8,.inr<|J3 0⟩
  ·exact⟨_,_,_,_,_,_,pl32 hk (tx20 hk l5 l8) ht cn c3 c4 c5 c8,rf20 hk l5 l8,.inr<|J3 1⟩
  ·exact⟨_,_,_,_,_,_,pl32 hk (tx30 hk l5 l8) ht cn c3 c4 c5 c8,rf30 hk l5 l8,.inr<|J3 2⟩
end Go.Abs
namespace Go.Abs
open Go.Proofs Go.RowKit
set_option maxRecDepth 10000000
variable {W0 : World}
theorem pk16 (hk:Kn W0){s1 s101:Bz}{a0 c1 r1:Int}{fc1 fr1:Bool}(h1:oC W0 37 [N12 s1 r1 c1 fr1 fc1]<|.bool true)(h2:oC W0 114 [.str s101]<|N14 s1 r1 c1 fr1 fc1):cP W0 150 [N95 s101 a0] [] (N96 s1 r1 c1 fr1 fc1) []:=C3 hk Nu (ss0 29 [(true,17),(true,14)] 8 [] [(N14 s1 r1 c1 fr1 fc1,none),(.bool true,none),(.bool true,none)] []) Am<|gdE ((s1==s1)&&((r1==r1)&&((c1==c1)&&((fr1==fr1)&&((fc1==fc1)&&((false==false)&&true)))))) true<|gdC h1<|gdE ((s1==s1)&&((r1==r1)&&((c1==c1)&&((fr1==fr1)&&((fc1==fc1)&&((false==false)&&true)))))) true<|gdC h1<|gdC h2 gdN
theorem pt16 (hk:Kn W0){s1 s93 s101:Bz}{a0 c1 r1:Int}{fc1 fr1:Bool}(h1:oC W0 150 [N95 s101 a0]<|N96 s1 r1 c1 fr1 fc1)(h2:oC W0 149 [.str s93]<|N97 s101 a0):cP W0 98 [.str s93] [] (N96 s1 r1 c1 fr1 fc1) []:=C3 hk Ns (ss0 2 [] 0 [] [(N97 s101 a0,none),(N96 s1 r1 c1 fr1 fc1,none)] []) Am<|gdC h1<|gdC h2 gdN
end Go.Abs
namespace Go.Abs
open Go.Proofs Go.RowKit
set_option maxRecDepth 100000
variable {W0 : World}
def Sr (p:Bz):Bz:=(p++[])
theorem lx16 (_:Kn W0){p:Bz}{sp:Bz}{rp cp:Int}{frp fcp:Bool}(hp:B7 W0 p sp rp cp frp fcp)(ha:asc (Sr p)=true)(hl:(Sr p).length≤1000000):Lx W0 (Sr p) 0 [⟨5,p,0⟩]:=by have a0:=At.zero ha hl;have a1:=At.step (w:=p) a0;exact Fa hp.lex hp.len hp.h32 a0 Z<|Lx.end a1
theorem rd16 (hk:Kn W0){p:Bz}{sp:Bz}{rp cp:Int}{frp fcp:Bool}(hp:B7 W0 p sp rp cp frp fcp)(ha:asc (Sr p)=true)(hl:(Sr p).length≤200):cP W0 98 [.str<|Sr p] [] (.tup [.agg [.int .i64 5,.str [],.int .i64 0,.int .i64 0,.bool false,.int .i64 0,.str sp,.int .i64 rp,.int .i64 cp,.bool frp,.bool fcp,.bool false,.str [],.int .i64 0,.int .i64 0,.bool false,.bool false,.bool false,.int .i64 0,.nilSl],.int .i64 0,.int .i64 0]) []:=(pt16 hk (pk16 hk hp.right hp.rd)<|Ft (grK hk) (lx16 hk hp ha<|Nat.le_trans hl V) (λe=>by cases e) hl)
structure Zt (c:RC):Prop where
 sn:i64 c.sn
 rw:i64 c.rw
 cl:i64 c.cl
 kd:i64 c.kd
 a0:i64 c.a0
 a1:i64 c.a1
 a2:i64 c.a2
 b0:i64 c.b0
 b1:i64 c.b1
 b2:i64 c.b2
 vk:i64 c.vk
 vm:i64 c.vm
 ve:i64 c.ve
def Pz (W0:World)(t:Bz):Prop:=t.length≤200∧∃u l,t=61::u∧l.length=20∧l.all AVal.one=true∧Ab 0 l=true∧cP W0 98 [.str u] [] (.tup [.agg l,.int .i64 0,.int .i64 0]) []
theorem gF {t u:Bz}{l:List AVal}(h:t=61::u)(hu:u.length≤199)(hr:cP W0 98 [.str u] [] (.tup [.agg l,.int .i64 0,.int .i64 0]) [])(h1:l.length=20)(h2:l.all AVal.one=true)(h3:Ab 0 l=true):Pz W0 t:=⟨by grind,u,l,h,h1,h2,h3,hr⟩
theorem A2f (hk:Kn W0){c:RC}(hc:Zt c){n:Nat}(hn:1≤n∧n≤3)(nb tb:Bool):∃t,cP W0 19 [rcV c,.int .i64 (n:Nat),.bool nb,.bool tb] [] (.str t) []∧Pz W0 t:=by
 have hg:=grK hk;obtain⟨p,sp,rp,cp,frp,fcp,hp⟩:=Aa4 hk hc.a0 hc.a1 hc.a2 hn;obtain⟨q,sq,rq,cq,frq,fcq,hq⟩:=Aa4 hk hc.b0 hc.b1 hc.b2 hn;have l8:=Bm (c:=c.b0) (n:=8) V;have l5:=Bm (c:=c.b1) (n:=5) V;have b8:=λH=>F4 hg (c:=c.b0) (n:=8) hc.b0.1 hc.b0.2 V H;have b5:=λH=>F4 hg (c:=c.b1) (n:=5) hc.b1.1 hc.b1.2 V H;have hu:=A7p hk l5 l8;have tu:=Aao hk l5 l8;have hpl:=hp.r.short;have hql:=hq.r.short;have hul:=hu.short;have hA:=λH=>A5.pure Z Z hp.c H;have hB:=λH=>A5.pure Z Z hq.c H;have hT:=λH=>A5.pure Z Z tu H;have har:=areaP hg (B2:=c.b2) (n:=(n:Nat)) hA b8 b5 hT Y Y;have hC:=λH=>A5.pure Z Z har H;generalize hug:[cB<|B8 c.b1 5,dB<|B8 c.b0 8]=u at*;have k16:=Bm (c:=c.kd) (n:=16) V;have hP:=λH=>F4 hg (c:=c.kd) (n:=16) hc.kd.1 hc.kd.2 V H;have ap:=hp.r.asc;have aq:=hq.r.asc;have au:=hu.asc;have hal:((p++[58])++u).length≤100:=by grind
 refine⟨_,fmW hg hA hB hC k16 hP Y Y hal nb tb,?_⟩;generalize B8 c.kd 16=k at k16;have g0:=λ(t:Bz) (h:t=61::bd0 p)=>gF (W0:=W0) h (by grind[bd0]) (rd0 hk hp.r (by simp_all[bd0,asc]) (by grind[bd0])) Z Z Z;have g1:=λ(t:Bz) (h:t=61::bd1 p q)=>gF (W0:=W0) h (by grind[bd1]) (rd1 hk hp.r hq.r (by simp_all[bd1,asc]) (by grind[bd1])) Z Z Z;have g2:=λ(t:Bz) (h:t=61::bd2 p u)=>gF (W0:=W0) h (by grind[bd2]) (rd2 hk hp.r hu (by simp_all[bd2,asc]) (by grind[bd2])) Z Z Z;have g3:=λ(t:Bz) (h:t=61::bd3 p q)=>gF (W0:=W0) h (by grind[bd3]) (rd3 hk hp.r hq.r (by simp_all[bd3,asc]) (by grind[bd3])) Z Z Z;have g4:=λ(t:Bz) (h:t=61::bd4 p)=>gF (W0:=W0) h (by grind[bd4,List.length_cons]) (rd4 hk hp.r (by simp_all[bd4,asc]) (by grind[bd4,List.length_cons])) Z Z Z;have g5:=λ(t:Bz) (h:t=61::bd5 p u)=>gF (W0:=W0) h (by grind[bd5]) (rd5 hk hp.r hu (by simp_all[bd5,asc]) (by grind[bd5])) Z Z Z;have g6:=λ(t:Bz) (h:t=61::bd6 p q)=>gF (W0:=W0) h (by grind[bd6,List.length_cons]) (rd6 hk hp.r hq.r (by simp_all[bd6,asc]) (by grind[bd6,List.length_cons])) Z Z Z;have g7:=λ(t:Bz) (h:t=61::bd7 p)=>gF (W0:=W0) h (by grind[bd7,List.length_cons]) (rd7 hk hp.r (by simp_all[bd7,asc]) (by grind[bd7,List.length_cons])) Z Z Z;have g8:=λ(t:Bz) (h:t=61::bd8 p)=>gF (W0:=W0) h (by grind[bd8]) (rd8 hk hp.r (by simp_all[bd8,asc]) (by grind[bd8])) Z Z Z;have g9:=λ(t:Bz) (h:t=61::bd9 p)=>gF (W0:=W0) h (by grind[bd9]) (rd9 hk hp.r (by simp_all[bd9,asc]) (by grind[bd9])) Z Z Z;have g10:=λ(t:Bz) (h:t=61::Vb p)=>gF (W0:=W0) h (by grind[Vb]) (rd10 hk hp.r (by simp_all[Vb,asc]) (by grind[Vb])) Z Z Z;have g11:=λ(t:Bz) (h:t=61::Vd p)=>gF (W0:=W0) h (by grind[Vd]) (rd11 hk hp.r (by simp_all[Vd,asc]) (by grind[Vd])) Z Z Z;have g12:=λ(t:Bz) (h:t=61::Va p q u)=>gF (W0:=W0) h (by grind[Va]) (rd12 hk hp.r hq.r hu (by simp_all[Va,asc]) (by grind[Va])) Z Z Z;have g13:=λ(t:Bz) (h:t=61::V4 p)=>gF (W0:=W0) h (by grind[V4]) (rd13 hk hp.r (by simp_all[V4,asc]) (by grind[V4])) Z Z Z;have g14:=λ(t:Bz) (h:t=61::V7 p)=>gF (W0:=W0) h (by grind[V7]) (rd14 hk hp.r (by simp_all[V7,asc]) (by grind[V7])) Z Z Z;have g15:=λ(t:Bz) (h:t=61::Rf p)=>gF (W0:=W0) h (by grind[Rf,List.length_cons]) (rd15 hk hp.r (by simp_all[Rf,asc]) (by grind[Rf,List.length_cons])) Z Z Z;have g16:=λ(t:Bz) (h:t=61::Sr p)=>gF (W0:=W0) h (by grind[Sr]) (rd16 hk hp.r (by grind[Sr]) (by grind[Sr])) Z Z Z
 match k,k16 with
 |0,_=>grind[fmS,bd0]|1,_=>grind[fmS,bd1]|2,_=>grind[fmS,bd2]|3,_=>grind[fmS,bd3]|4,_=>simp_all[fmS,bd4]|5,_=>grind[fmS,bd5]|6,_=>simp_all[fmS,bd6]|7,_=>simp_all[fmS,bd7]|8,_=>grind[fmS,bd8]|9,_=>grind[fmS,bd9]|10,_=>grind[fmS,Vb]|11,_=>grind[fmS,Vd]|12,_=>simp_all[fmS,Va]
 |13,_=>cases nb with
  |true=>exact g13 _ (by simp[fmS,V4])
  |false=>cases tb with
   |true=>exact g15 _ (by simp[fmS,Rf])|false=>exact g16 _ (by simp[fmS,Sr])
 |14,_=>cases nb with
  |true=>exact g14 _ (by simp[fmS,V7])
  |false=>cases tb with
   |true=>exact g15 _ (by simp[fmS,Rf])|false=>exact g16 _ (by simp[fmS,Sr])
 |15,_=>cases tb with
  |true=>exact g15 _ (by simp[fmS,Rf])|false=>exact g16 _ (by simp[fmS,Sr])
 |_+16,h=>omega
end Go.Abs
namespace Go.Abs
open Go.Proofs Go.RowKit
set_option maxRecDepth 10000000
variable {W0 : World}
theorem pk17 (hk:Kn W0){s1 s101:Bz}{a0 a1 a2 c1 r1:Int}{fc1 fr1:Bool}(h1:oC W0 37 [N12 s1 r1 c1 fr1 fc1]<|.bool true)(h2:oC W0 99 [.str [50]]<|N37)(h3:oC W0 114 [.str s101]<|N14 s1 r1 c1 fr1 fc1):cP W0 150 [N98 s101 a0 a1 a2] [] (N99 s1 r1 c1 fr1 fc1) []:=C3 hk Nu (ss0 29 [(true,101),(true,42)] 27 [] [(N14 s1 r1 c1 fr1 fc1,none),(.bool true,none),(N37,none),(.bool true,none)] []) Am<|gdE ((s1==s1)&&((r1==r1)&&((c1==c1)&&((fr1==fr1)&&((fc1==fc1)&&((false==false)&&true)))))) true<|gdC h1<|gdC h2<|gdE ((s1==s1)&&((r1==r1)&&((c1==c1)&&((fr1==fr1)&&((fc1==fc1)&&((false==false)&&true)))))) true<|gdC h1<|gdC h3 gdN
theorem pt17 (hk:Kn W0){s1 s93 s101:Bz}{a0 a1 a2 c1 r1:Int}{fc1 fr1:Bool}(h1:oC W0 150 [N98 s101 a0 a1 a2]<|N99 s1 r1 c1 fr1 fc1)(h2:oC W0 149 [.str s93]<|N100 s101 a0 a1 a2):cP W0 98 [.str s93] [] (N99 s1 r1 c1 fr1 fc1) []:=C3 hk Ns (ss0 2 [] 0 [] [(N100 s101 a0 a1 a2,none),(N99 s1 r1 c1 fr1 fc1,none)] []) Am<|gdC h1<|gdC h2 gdN
theorem rfSA (hk:Kn W0):B7 W0 [83,33,36,65,36,49] [83] 0 0 true true:=by have hrd:=clK hk (f:=114) (args:=[.str [83,33,36,65,36,49]]) (v:=.tup [.agg [.str [83],.int .i64 0,.int .i64 0,.bool true,.bool true,.bool false],.int .i64 0]) Am Z Z;have hrt:=clK hk (f:=37) (args:=[.agg [.str [83],.int .i64 0,.int .i64 0,.bool true,.bool true,.bool false]]) (v:=.bool true) Am Z Z;exact⟨Q6 hk (b:=83) (w:=[]) (c:=[36,65,36,49]) V V V ⟨_,_,_,_,_,_,_,hrd,Z⟩,Ax,V,V,Ax,hrd,hrt⟩
def bd17 (p:Bz):Bz:=(p++(42::(50::[])))
theorem lx17 (hk:Kn W0){p:Bz}{sp:Bz}{rp cp:Int}{frp fcp:Bool}(hp:B7 W0 p sp rp cp frp fcp)(ha:asc (bd17 p)=true)(hl:(bd17 p).length≤1000000):Lx W0 (bd17 p) 0 [⟨5,p,0⟩,⟨8,[42],(0+p.length)⟩,⟨1,[50],((0+p.length)+1)⟩]:=by have a0:=At.zero ha hl;have a1:=At.step (w:=p) a0;have a2:=At.step (w:=[42]) a1;have a3:=At.step (w:=[50]) a2;exact Fa hp.lex hp.len hp.h32 a0 Z<|Au hk (k:=9) a1 Z Z<|Le hk (dgR<|A26 hk) Z Z a2 Z Z<|Lx.end a3
theorem goodN1 (hk:Kn W0):Pz W0 [61,65,50,42,50]:=by have hp:=A7p hk (cl:=0) (rw:=1) V V;exact gF (u:=bd17 [cB 0,dB 1]) rfl V (pt17 hk (pk17 hk hp.right (A26 hk).2.2 hp.rd)<|Ft (grK hk) (lx17 hk hp V V) (λe=>by cases e) V) rfl rfl rfl
end Go.Abs
namespace Go.Abs
open Go.Proofs Go.RowKit
set_option maxRecDepth 100000
variable {W0 : World} {G : List (Nat × AVal)}
theorem mm0 {j:Nat}:AVal.int .i64 (cond (cond true (decide<|((j:Nat):Int)<0)<|decide<|(0:Int)<((j:Nat):Int)) 0 ((j:Nat):Int))= .int .i64 ((j:Nat):Int):=by grind
theorem restQ (hg:hGr W0 G){H:Hz}{id T:Nat}{b m:Bool}{l:List Int}(ho:H[id]?=some (.cells T (nb b l m) false))(hl:l.length=96){j:Nat}(hj:j<96):I8 Tryz.prog W0 220 [.ptr id 0,.int .i64 ((j+1:Nat):Int)] H (λv X=>X=H∧∃r:Int,v= .int .i64 r):=by
 refine goQ 220 53 ?_;refine ExM.seq<|ExM.ops hg<|Ac hg gN Z Z O<|Ba<|ExM.seq<|ExM.ops hg<|Ac hg gN Z Z O<|Ac hg gN (v:=.ptr id 0) (Ig Z ho) Z O<|Ac hg gN (v:=.ptr id 97) (Gk Z ho) Z O<|Ac hg gN (v:=.bool m) (loadNm Z ho hl) Z O<|Ac hg gN Z Z O<|Ba<|ExM.seq<|ExM.seq<|ExM.ops hg<|Ac hg gN Z Z O<|mKv hg gN (v:=.int .i64 ((j:Nat):Int)) Z Z O (Bj Y Y Y)<|mKv hg gN (v:=.int .i64 ((j:Nat):Int)) Z Z O mm0<|Ac hg gN Z Z O<|Ba<|ExM.block ?_;refine ExM.loopJ (σ:=Nat×Bool) (τ:=Bool) (λ⟨i,mo⟩=>⟨.al [(0,.ptr id 0),(1,.int .i64 ((j+1:Nat):Int)),(5,.bool mo),(14,.int .i64 ((j:Nat):Int)),(15,.int .i64 ((i:Nat):Int))],H,53⟩) (λ⟨i,mo⟩=>i≤j) (λ⟨i,mo⟩=>j-i) ⟨0,m⟩ 0 (λmo=>⟨.al [(0,.ptr id 0),(1,.int .i64 ((j+1:Nat):Int)),(5,.bool mo)],H,53⟩) (λmo=>True) (An Z Z<|sb4 Z Z Z Z<|(((sbC Z<|sbN)))) (Nat.zero_le _) ?_ ?_
 ·rintro⟨i,mo⟩ hi;have hi:i≤j:=hi;refine sO ?_;cases mo
  ·refine mB hg gN Z Z O (λh1=>?_) (λh1=>?_)
   ·have hlt:i<j:=by grind
    refine mn<|sq<|cT Z<|kM<|sq<|bM<|sO<|x2 Z Z<|oM<|m4 Z Z Z Z<|mV (v:=.ptr id 0) (Ig Z ho)<|mV (v:=.ptr id 1) (Gk Z ho)<|Ac hg (gS Z) (v:=.ptr id<|1+i) (V8 Z Z ho) Z A2m<|mV (v:=.int .i8<|l.getD i 0) (Wz Z ho Y)<|x3 Z Z Z<|oM<|mI ((i+1:Nat):Int) Z<|x1 Z ?_;exact⟨⟨i+1,_⟩,(Y:i+1≤j),(by grind),An Z Z<|sb4 Z Z Z Z<|(((sbC Z<|sbN)))⟩
   ·refine mn<|sq<|cF Z<|ExM.exit ?_;exact .inl ⟨Z,false,O,An Z Z<|sbC Z<|sbC Z<|sbC Z<|sbN⟩
  ·refine mB hg gN Z Z O (λh2=>?_) (λh2=>?_)
   ·have hlt:i<j:=by grind
    refine mn<|sq<|cT Z<|kM<|sq<|bM<|sO<|x2 Z Z<|oM<|m2 Z Z<|mG<|mG<|mG<|mG<|mG<|mG<|mG<|x2 Z Z<|oM<|mI ((i+1:Nat):Int) Z<|x1 Z ?_;exact⟨⟨i+1,_⟩,(Y:i+1≤j),(by grind),An Z Z<|sb4 Z Z Z Z<|(((sbC Z<|sbN)))⟩
   ·refine mn<|sq<|cF Z<|ExM.exit ?_;exact .inl ⟨Z,true,O,An Z Z<|sbC Z<|sbC Z<|sbC Z<|sbN⟩
 ·rintro mo s' hJ hs;refine ExM.sub hs ?_;refine sq<|sO<|m2 Z Z<|mI ((j:Nat):Int) Z<|mV (v:=.ptr id 0) (Ig Z ho)<|mV (v:=.ptr id 1) (Gk Z ho)<|Ac hg gN (v:=.ptr id<|1+j) (V8 Z Z ho) Z A2m<|mV (v:=.int .i8<|l.getD j 0) (Wz Z ho Y)<|x1 Z<|bM<|sO<|mV Z ?_;refine mB hg gN Z Z O (λh3=>?_) (λh3=>?_)
  ·refine m2 Z Z ?_;refine mB hg (gS Z) Z Z O (λh4=>?_)<|λh4=>?_;·refine x2 Z Z<|cT Z<|sO<|x1 Z<|ExM.ret ?_;exact⟨_,_,⟨Z,_,Z⟩,A6 O Z Z Z⟩
   ·refine x2 Z Z<|cF Z<|sO<|mV Z ?_;refine mB hg gN Z Z O (λh5=>?_)<|λh5=>?_;·refine x1 Z<|cT Z<|sO<|x1 Z<|ExM.ret ?_;exact⟨_,_,⟨Z,_,Z⟩,A6 O Z Z Z⟩
    grind
  ·refine mV Z<|mG<|mG<|x2 Z Z<|cF Z<|sO<|mV Z ?_;refine mB hg gN Z Z O (λh8=>?_)<|λh8=>?_;·refine x1 Z<|cT Z<|sO<|x1 Z<|ExM.ret ?_;exact⟨_,_,⟨Z,_,Z⟩,A6 O Z Z Z⟩
   ·refine x1 Z<|cF Z<|sO<|mV Z ?_;refine mB hg gN Z Z O (λh9=>?_) (λh9=>?_)
    ·refine m2 Z Z ?_;refine mB hg (gS Z) Z Z O (λh10=>?_)<|λh10=>?_;·refine x2 Z Z<|cT Z<|sO<|x1 Z<|ExM.ret ?_;exact⟨_,_,⟨Z,_,Z⟩,A6 O Z Z Z⟩
     ·refine x2 Z Z<|cF Z<|kM<|sO<|x1 Z<|ExM.ret ?_;exact⟨_,_,⟨Z,_,Z⟩,A6 O Z Z Z⟩
    ·refine mV Z<|mG<|mG<|x2 Z Z<|cF Z<|kM<|sO<|x1 Z<|ExM.ret ?_;exact⟨_,_,⟨Z,_,Z⟩,A6 O Z Z Z⟩
theorem topQ (hg:hGr W0 G){H:Hz}{id T:Nat}{b m:Bool}{l:List Int}(ho:H[id]?=some (.cells T (nb b l m) false))(hl:l.length=96):I8 Tryz.prog W0 222 [.ptr id 0] H (λv X=>X=H∧∃r:Int,v= .int .i64 r∧-1≤r∧r≤95):=by
 refine goQ 222 16 ?_;refine sO<|x1 Z<|sq<|sO<|x1 Z<|bM ?_;refine ExM.loopJ (σ:=Nat) (τ:=Unit) (λn=>⟨.al [(0,.ptr id 0),(3,.int .i64<|((n:Nat):Int)-1)],H,16⟩) (λn=>n≤96) (λn=>n) 96 0 (λ_=>⟨.al [(0,.ptr id 0)],H,16⟩) (λ_=>True) (An Z Z<|sbC Z<|sbC Z<|sbN) (Nat.le_refl _) ?_ ?_
 ·rintro n hn;have hn:n≤96:=hn;cases n with
  |zero=>refine sq<|sO<|mV Z<|mF Z<|mn<|cF Z ?_;exact ExM.exit<|.inl ⟨Z,(),O,An Z Z<|sbC Z<|sbN⟩
  |succ i=>
   refine sq<|sO<|mK (v:=.int .i64 ((i:Nat):Int)) Z (iE Y)<|mT Z<|mn<|cT Z<|kM<|sq<|bM<|sO<|mV (v:=.ptr id 0) Z<|mK (v:=.int .i64 ((i:Nat):Int)) Z (iE Y)<|mV (v:=.ptr id 0) (Ig Z ho)<|mV (v:=.ptr id 1) (Gk Z ho)<|Ac hg gN (v:=.ptr id<|1+i) (V8 Z Z ho) Z A2m<|mV (v:=.int .i8<|l.getD i 0) (Wz Z ho Y) ?_;refine mB hg gN Z Z O (λh1=>?_)<|λh1=>?_;·refine mn<|cT Z<|sO<|mK (v:=.int .i64 ((i:Nat):Int)) Z (iE Y)<|x1 Z ?_;refine ExM.ret ?_;refine .inr ?_;exact⟨_,_,⟨Z,_,Z,Y,Y⟩,A6 O Z Z Z⟩
   ·refine mn<|cF Z<|kM<|oM<|mV Z<|mI (((i:Nat):Int)-1) Z<|x1 Z ?_;exact⟨i,(Y:i≤96),(Nat.lt_succ_self i),An Z Z<|sbC Z<|sbC Z<|sbN⟩
 ·rintro _ s' hJ hs;refine ExM.sub hs ?_;refine sO<|x1 Z ?_;exact ExM.ret ⟨_,_,⟨Z,_,Z,Y,Y⟩,A6 O Z Z Z⟩
theorem nextY {s:St}{x:AOpd}{id pos:Nat}{t:Bz}(hx:ev G s x=some (.ptr id 0))(ho:s.H[id]?=some (.iter t pos))(hlt:pos<t.length):aop G s (.next x)=some (.val (.tup [.bool true,.int .i64 (pos:Nat),.int .i32 ((K3 t pos).1:Nat)]) (s.H.set id<|.iter t<|pos+(K3 t pos).2) []):=by
 have h:Nat.blt pos t.length=true:=by simp_all
 simp only[aop,hx,Wp,Nat.beq_refl,cond_true,ho,h]
theorem nextN {s:St}{x:AOpd}{id pos:Nat}{t:Bz}(hx:ev G s x=some (.ptr id 0))(ho:s.H[id]?=some (.iter t pos))(hlt:¬pos<t.length):aop G s (.next x)=some (.val (.tup [.bool false]) s.H []):=by
 have h:Nat.blt pos t.length=false:=by grind[Nat.blt_eq]
 simp_all[aop,Wp]
theorem oddF (hg:hGr W0 G){r:Nat}(h1:32≤r)(h2:r≠127):cP W0 156 [.int .i32 (r:Nat)] [] (.bool false) []:=by refine goM 156 9 ?_;refine sO<|x1 Z<|sO<|mV Z<|mF Z<|m2 Z Z<|mF Z<|x2 Z Z ?_;exact ExM.ret<|pS
theorem idxF (hg:hGr W0 G){s:Bz}(h:Txt s 0):cP W0 273 [.str s,.fn 156 [] [],.bool true] [] (.int .i64<|-1) []:=by
 refine goM 273 21 ?_;refine ExM.seq<|ExM.ops hg<|Ac hg gN Z Z O<|Ba<|ExM.seq<|ExM.seq<|ExM.ops hg<|Ac hg gN Z Z O<|Ac hg gN (v:=.ptr 0 0) Z Z O<|Ba<|ExM.block<|ExM.loopS (σ:=Nat) (λi=>⟨.al [(0,.str s),(1,.fn 156 [] []),(2,.bool true),(10,.ptr 0 0)],[.iter s i],21⟩) (λi=>Txt s i) (λi=>s.length-i) 0 (An Z Z<|sbC Z<|sbC Z<|sbC Z<|sbC Z sbN) h ?_;intro i hT;have hle:=hT.le;refine sO ?_;by_cases hin:i<s.length;·obtain⟨q1,q2,q3,q4⟩:=hT.rune hin;refine mV (v:=.tup [.bool true,.int .i64 (i:Nat),.int .i32 ((K3 s i).1:Nat)]) (nextY Z Z hin)<|x1 Z<|sq<|cT Z<|kM<|bM<|sO<|x4 Z Z Z Z<|sO<|m2 Z Z<|I1 hg gN (c:=false) Z Z (A5.pure (args:=[.int .i32 ((K3 s i).1:Nat)]) Z Z (oddF hg q2 q3) _) Z<|mV Z<|mBk hg gN (c:=false) Z Z Z<|mn<|cF Z<|kM ?_;exact⟨i+(K3 s i).2,q1,by grind[K3],An rfl rfl<|sbC Z<|sbC Z<|sbC Z<|sbC Z sbN⟩
 ·refine mV (v:=.tup [.bool false]) (nextN Z Z hin)<|x1 Z<|sq<|cF Z<|ExM.exit<|sO<|x1 Z<|ExM.ret ?_;exact pL
theorem idx186 (hg:hGr W0 G){s:Bz}(h:Txt s 0):cP W0 226 [.str s,.fn 156 [] []] [] (.int .i64<|-1) []:=by refine goM 226 8 ?_;refine sO<|x1 Z<|sO<|m2 Z Z<|mC Z (idxF hg h)<|x1 Z ?_;exact ExM.ret<|pS
theorem con148 (hg:hGr W0 G){s:Bz}(h:Txt s 0):cP W0 157 [.str s,.fn 156 [] []] [] (.bool false) []:=by refine goM 157 9 ?_;refine sO<|x1 Z<|sO<|m2 Z Z<|mC Z (idx186 hg h)<|mBk hg gN (c:=false) Z Z Z<|x1 Z ?_;exact ExM.ret<|pS
theorem textT (hg:hGr W0 G)(hw:Lw W0){s:Bz}(h:Txt s 0)(hl:s.length≤200):cP W0 107 [.str s] [] (.bool true) []:=by refine goM 107 17 ?_;refine sO<|x1 Z<|sO<|x1 Z<|sO<|m2 Z Z<|mT Z<|m2 Z Z<|I1 hg (gS Z) (c:=true) Z Z (Acz hw Y) h.valid<|m4 Z Z Z Z<|I1 hg (gS Z) (c:=false) Z Z (con148 hg h) Z<|x3 Z Z Z ?_;exact ExM.ret<|pS
theorem Ach (hg:hGr W0 G){s:Bz}(hs:s.length≤100000):As Tryz.prog W0 104 [.str s] (λv=>∃t,v= .str t):=by
 refine goE 104 30 ?_;refine ExM.seq<|ExM.ops hg<|Ac hg gN Z Z O<|Ba<|ExM.seq<|ExM.ops hg<|Ac hg gN Z Z O<|Ac hg gN (v:=.hsl 1 0 0 s.length none) Z Z O<|Ac hg gN Z Z O<|Ba<|ExM.seq<|ExM.seq<|ExM.ops hg<|Ac hg gN Z Z O<|Ac hg gN Z Z O<|Ac hg gN Z Z O<|Ba<|ExM.block<|ExM.loop (σ:=Nat×List Nat) (λσ=>⟨.al [(3,.hsl 1 0 0 s.length none),(8,.hsl 1 0 0 s.length none),(9,.int .i64 (s.length:Nat)),(10,.int .i64 (σ.1:Nat))],[.cells 5 (u8s σ.2) false],30⟩) (λσ=>σ.1≤s.length∧σ.2.length=s.length) (λσ=>s.length-σ.1) (0,s.map UInt8.toNat) (Aq 1 Z (Nat.zero_le _) (by rw[←s2bB];rfl) (O6 _)<|fzC Z (fvH Z)<|fzC Z (fvH Z)<|fI<|fI fzN) ⟨Nat.zero_le _,Ax⟩ ?_;rintro⟨i,l⟩ ⟨hi,hl⟩;simp only at hi hl⊢;refine sO ?_;by_cases hin:i<s.length
 ·refine mT Z<|mn<|sq<|cT Z<|kM<|sq<|bM<|sO<|mV Z<|mS (v:=.ptr 0 i) (A7o Z Z Z)<|mV (v:=.int .u8 (l.getD i 0:Nat)) (A5s Z Z Y)<|x2 Z Z<|sO<|mV Z ?_;by_cases h65:65≤l.getD i 0
  ·refine mT Z<|m2 Z Z ?_;by_cases h90:l.getD i 0≤90;·refine mT Z<|x1 Z<|cT Z<|oM<|m3 Z Z Z<|mKs (v:=.int .u8<|(l.getD i 0+97:Nat)) Z (w8E Y Y Y)<|mK (v:=.int .u8<|(l.getD i 0+32:Nat)) Z (w8E Y Y Y)<|mS (v:=.ptr 0 i) (A7o Z Z Z)<|Ah hg gN (Acw Z Z Z Y Z)<|mn<|oM<|mI ((i+1:Nat)) Z<|x1 Z ?_;exact⟨(i+1,l.set i<|l.getD i 0+32),⟨Y,by grind⟩,Y,Aq 1 rfl (Nat.zero_le _) rfl (O6 _)<|fzC Z (fvH Z)<|fzC Z (fvH Z)<|fI<|fI fzN⟩
   ·refine mF Z<|x1 Z<|cF Z<|kM<|oM<|mI ((i+1:Nat)) Z<|x1 Z ?_;exact⟨(i+1,l),⟨Y,Y⟩,Y,Aq 1 Z (Nat.zero_le _) Z (O6 _)<|fzC Z (fvH Z)<|fzC Z (fvH Z)<|fI<|fI fzN⟩
  ·refine mF Z<|mV Z<|mG<|mG<|x1 Z<|cF Z<|kM<|oM<|mI ((i+1:Nat)) Z<|x1 Z ?_;exact⟨(i+1,l),⟨Y,Y⟩,Y,Aq 1 Z (Nat.zero_le _) Z (O6 _)<|fzC Z (fvH Z)<|fzC Z (fvH Z)<|fI<|fI fzN⟩
 ·refine mF Z<|mn<|sq<|cF Z<|ExM.exit<|sO<|mV Z<|mV (v:=.str<|l.map UInt8.ofNat) (b2sB Z Z hl.symm)<|x1 Z<|ExM.ret ?_;exact⟨_,⟨_,Z⟩,A4 O Z Z 100 Z Z⟩
theorem truthsV (hg:hGr W0 G){s:Bz}(hs:s.length≤100000):As Tryz.prog W0 101 [.str s] (λv=>∃a b,v= .tup [.bool a,.bool b]):=by
 refine goE 101 15 ?_;refine sO<|x2 Z Z<|sO<|mV Z ?_;refine C0 hg gN Z Z Z (Ach hg hs) ?_ ?_;·rintro _ ⟨t,rfl⟩;rfl
 rintro _ ⟨t,rfl⟩;refine x1 Z<|sO<|mV Z ?_;refine mB hg gN Z Z O (λh1=>?_)<|λh1=>?_
 ·refine mV Z ?_;refine mB hg gN Z Z O (λh2=>?_)<|λh2=>?_;·refine mV Z<|mG<|mG<|x3 Z Z Z ?_;exact ExM.ret ⟨_,⟨_,_,Z⟩,A6 O Z Z Z⟩
  grind
 ·refine mV Z ?_;refine mB hg gN Z Z O (λh4=>?_)<|λh4=>?_;·grind
  ·refine m2 Z Z ?_;refine mB hg (gS Z) Z Z O (λh5=>?_)<|λh5=>?_;·refine x3 Z Z Z ?_;exact ExM.ret ⟨_,⟨_,_,Z⟩,A6 O Z Z Z⟩
   ·refine x3 Z Z Z ?_;exact ExM.ret ⟨_,⟨_,_,Z⟩,A6 O Z Z Z⟩
theorem numV (hg:hGr W0 G){m e:Int}:cP W0 100 [.agg [.int .i64 m,.int .i64 e]] [] (Dq 1 m e [] false 0) []:=by refine goM 100 5 ?_;refine sO<|mV (v:=.ptr 0 0) Z<|mV (v:=.ptr 1 0) Z<|mn<|sO<|m2 Z Z<|Ah hg gN Z<|mn ?_;exact ExM.ret<|pL
theorem truV (hg:hGr W0 G){b:Bool}:cP W0 102 [.bool b] [] (Dq 3 0 0 [] b 0) []:=by refine goM 102 5 ?_;refine sO<|mV (v:=.ptr 0 0) Z<|mn<|sO<|m2 Z Z<|Ah hg gN Z<|mn ?_;exact ExM.ret<|pL
theorem errW (hg:hGr W0 G){n:Int}:cP W0 105 [.int .i64 n] [] (Dq 4 0 0 [] false n) []:=by refine goM 105 5 ?_;refine sO<|mV (v:=.ptr 0 0) Z<|mn<|sO<|m2 Z Z<|Ah hg gN Z<|mn ?_;exact ExM.ret<|pL
theorem saidV (hg:hGr W0 G){s:Bz}:cP W0 108 [.str s] [] (Dq 2 0 0 s false 0) []:=by refine goM 108 5 ?_;refine sO<|mV (v:=.ptr 0 0) Z<|mn<|sO<|m2 Z Z<|Ah hg gN Z<|mn ?_;exact ExM.ret<|pL
def nms :List Bz:=[[35,78,85,76,76,33],[35,68,73,86,47,48,33],[35,86,65,76,85,69,33],[35,82,69,70,33],[35,78,65,77,69,63],[35,78,85,77,33],[35,78,47,65],[35,83,80,73,76,76,33],[35,67,73,82,67,33]]
theorem namesV (hg:hGr W0 G):cP W0 103 [] [] (.agg<|nms.map AVal.str) []:=by refine goM 103 2 ?_;refine sO<|mV (v:=.ptr 0 0) Z<|mn<|sO<|mV Z<|Ah hg gN Z<|mn ?_;exact ExM.ret<|pL
theorem idxV {s:St}{x i:AOpd}{j:Nat}(hx:ev G s x=some (.agg<|nms.map AVal.str))(hi:ev G s i=some (.int .i64 (j:Nat)))(hj:j<9):aop G s (.idxVal 9 1 false x i)=some (.val (.str<|nms.getD j []) s.H [(0,(j:Int)),((j:Int)+1,((9:Nat):Int))]):=by simp only[aop,hx,hi];have:j=0∨j=1∨j=2∨j=3∨j=4∨j=5∨j=6∨j=7∨j=8:=Y;rcases this with rfl|rfl|rfl|rfl|rfl|rfl|rfl|rfl|rfl<;>rfl
theorem nms_len (j:Nat):(nms.getD j []).length≤100:=by
 rcases Nat.lt_or_ge j 9 with h|h
 ·have:j=0∨j=1∨j=2∨j=3∨j=4∨j=5∨j=6∨j=7∨j=8:=by omega
  rcases this with rfl|rfl|rfl|rfl|rfl|rfl|rfl|rfl|rfl<;>decide
 ·rw[List.getD_eq_getElem?_getD,List.getElem?_eq_none (by exact h)];decide
theorem Acp {s:Bz}:(Lib.trimPrefix s [39]).length≤s.length:=by rcases tr39 s with h|⟨r,rfl,h⟩;all_goals grind
theorem readOK (hk:Kn W0)(hg:hGr W0 G)(hdec:∀s:Bz,s.length≤200→As Tryz.prog W0 99 [.str s] λv=>∃m e er:Int,v= .tup [.agg [.int .i64 m,.int .i64 e],.int .i64 er]){s:Bz}(hl:lit s)(hne:s≠[]):As Tryz.prog W0 72 [.str s] (λv=>blw 0 v=true∧∃c,v= .tup [.agg c,.int .i64 0]∧c.length=12∧c.all AVal.one=true):=by
 obtain⟨h1,hlen,hT⟩:=hl;have h61:s.getD 0 0≠61:=by cases s with|nil=>exact absurd rfl hne|cons c r=>exact h1 c r rfl
 refine goE 72 59 ?_;refine sO<|mV (v:=.ptr 0 0) Z<|x1 Z<|sq<|bM<|sO<|mV Z<|mBk hg gN (c:=false) Z Z (by grind)<|x1 Z<|cF Z<|sO<|mV Z<|Ac hg gN (v:=.int .u8 ((s.getD 0 0).toNat:Nat)) (J2 (n:=0) Z Z) Z bY183<|mBk hg gN (c:=false) Z Z (by rw[bFn];intro e;exact h61<|UInt8.toNat_inj.1 (by grind))<|x1 Z<|cF Z<|kM<|sq<|sO<|mV Z ?_;refine C0 hg gN Z Z Z (hdec s hlen) ?_ ?_;·rintro _ ⟨m,e,er,rfl⟩;rfl
 rintro _ ⟨m,e,er,rfl⟩;refine m3 Z Z Z<|mV (v:=.ptr 1 0) Z<|Ah hg gN Z<|x1 Z<|sO<|mV Z ?_;refine mB hg gN Z Z O (λh1=>?_)<|λh1=>?_;·refine mn<|cT Z<|sO<|mV Z<|mC Z (A5.pure Z Z (numV hg) _)<|Ah hg gN Z<|x1 Z<|ExM.ret ?_;exact⟨_,⟨Z,_,Z,Z,Z⟩,A4 O Z Z 100 Z Z⟩
 ·refine mn<|cF Z<|kM<|sq<|sO<|mV Z ?_;refine C0 hg gN Z Z Z (truthsV hg Y) ?_ ?_;·rintro _ ⟨a1,a2,rfl⟩;rfl
  rintro _ ⟨a1,a2,rfl⟩;refine mV Z<|x4 Z Z Z Z<|sO ?_;refine mB hg gN Z Z O (λh2=>?_)<|λh2=>?_;·refine mn<|cT Z<|sO<|mV Z<|mC Z (A5.pure Z Z (truV hg) _)<|Ah hg gN Z<|x1 Z<|ExM.ret ?_;exact⟨_,⟨Z,_,Z,Z,Z⟩,A4 O Z Z 100 Z Z⟩
  ·refine mn<|cF Z<|kM<|sq<|sO<|mC Z (A5.pure Z Z (namesV hg) _)<|x1 Z<|bM<|ExM.loop (σ:=Nat) (λj=>⟨.al [(0,.str s),(2,.ptr 0 0),(37,.agg<|nms.map AVal.str),(38,.int .i64 (j:Nat))],[.cells 141 [.int .i64 0,.int .i64 0,.int .i64 0,.str [],.bool false,.int .i64 0,.int .i64 0,.int .i64 0,.nilSl,.int .i64 0,.nilSl,.nilSl] false],59⟩) (λj=>j≤9) (λj=>9-j) 0 (Aq 1 Z (Nat.zero_le _) Z Z<|fS<|fzC Z (fvP Z)<|fzC Z (.inl ⟨12,Z⟩)<|fI fzN) V ?_;rintro j hj;refine sO ?_;by_cases hj9:j<9
   ·refine mT Z<|mn<|sq<|cT Z<|kM<|sq<|bM<|sO<|mV Z<|mS (v:=.str<|nms.getD j []) (idxV Z Z hj9)<|x2 Z Z<|sO<|mV Z ?_;refine C0 hg gN Z Z Z (Ach hg (s:=nms.getD j [])<|Nat.le_trans (nms_len j) V) ?_ ?_;·rintro _ ⟨t1,rfl⟩;rfl
    rintro _ ⟨t1,rfl⟩;refine mV Z ?_;refine C0 hg gN Z Z Z (Ach hg Y) ?_ ?_;·rintro _ ⟨t2,rfl⟩;rfl
    rintro _ ⟨t2,rfl⟩;refine mB hg gN Z Z O (λh3=>?_)<|λh3=>?_;·refine mn<|cT Z<|sO<|mV Z<|mI ((j+1:Nat)) Z<|mC Z (A5.pure Z Z (errW hg) _)<|Ah hg gN Z<|x1 Z<|ExM.ret ?_;exact⟨_,⟨Z,_,Z,Z,Z⟩,A4 O Z Z 100 Z Z⟩
    ·refine mn<|cF Z<|kM<|oM<|mI ((j+1:Nat)) Z<|x1 Z ?_;exact⟨j+1,Y,Y,Aq 1 Z (Nat.zero_le _) Z Z<|fS<|fzC Z (fvP Z)<|fzC Z (.inl ⟨12,Z⟩)<|fI fzN⟩
   ·refine mF Z<|mn<|sq<|cF Z<|ExM.exit<|sO<|mV Z<|mC Z A2i<|x1 Z<|sq<|sO<|mV Z<|I1 hg gN (c:=true) Z Z (A5.pure Z Z (textT hg hk.w hT<|Nat.le_trans Acp Y) _) Z<|x1 Z<|cF Z<|kM<|sO<|mV Z<|mC Z (A5.pure Z Z (saidV hg) _)<|Ah hg gN Z<|x1 Z<|ExM.ret ?_;exact⟨_,⟨Z,_,Z,Z,Z⟩,A4 O Z Z 100 Z Z⟩
def Dg9 (l:List Int):Prop:=∀n,0≤l.getD n 0∧l.getD n 0≤9
def Hi0 (l:List Int):Prop:=∀n,88≤n→l.getD n 0=0
theorem A2t {l:List Int}{i n:Nat}{v:Int}:(l.set i v).getD n 0=if n=i∧i<l.length then v else l.getD n 0:=by grind
theorem A29 {l:List Int}{k n:Nat}:(clr l k).getD n 0=if n<k then 0 else l.getD n 0:=by unfold clr;grind
theorem Dg9.set {l:List Int}(h:Dg9 l){i:Nat}{v:Int}(h1:0≤v)(h2:v≤9):Dg9 (l.set i v):=λn=>by
 rw[A2t];split;·omega
 ·exact h n
theorem Hi0.set {l:List Int}(h:Hi0 l){i:Nat}{v:Int}(hi:i<88∨v=0):Hi0 (l.set i v):=λn hn=>by
 rw[A2t];split;·omega
 ·exact h n hn
theorem Dg9.clr {l:List Int}(h:Dg9 l)(k:Nat):Dg9 (clr l k):=λn=>by rw[A29];split;exact⟨Int.le_refl _,V⟩;exact h n
theorem Hi0.clr {l:List Int}(h:Hi0 l)(k:Nat):Hi0 (clr l k):=λn hn=>by rw[A29];split;rfl;exact h n hn
theorem w8 {x:Int}(h1:-128≤x)(h2:x≤127):IntKind.i8.wrap x=x:=by simp[IntKind.wrap,IntKind.bits,IntKind.signed];omega
structure Wr where
 c:List Int
theorem cutQ (hg:hGr W0 G){H:Hz}{id T:Nat}{b m:Bool}{l:List Int}(ho:H[id]?=some (.cells T (nb b l m) false))(hl:l.length=96)(hd:Dg9 l)(hz:Hi0 l){k:Nat}(hk:k≤87)(up:Bool):I8 Tryz.prog W0 221 [.ptr id 0,.int .i64 ((k:Nat):Int),.bool up] H (λv X=>∃l',v= .tup []∧X=H.set id (.cells T (nb b (l') false) false)∧l'.length=96∧Dg9 l'):=by
 have hid:=gLt ho;have ho1:(H.set id<|.cells T (nb b (clr l k) m) false)[id]?=some (.cells T (nb b (clr l k) m) false):=gT hid;have hcl0:(clr l k).length=96:=by grind[A46]
 refine goQ 221 41 ?_;refine sO<|mV Z<|mV (v:=.ptr id 0) (Ig Z ho)<|mV (v:=.ptr id 1) (Gk Z ho)<|mV Z<|Ac hg gN (v:=.hsl 1 id 1 k<|some 96) (cutN Z Z ho hl) Z A2m<|mVal0 hg gN (clearN Z ho Y Z) O<|Ba<|ExM.seq<|ExM.ops hg<|Ac hg gN Z Z O<|Ac hg gN (v:=.ptr id 0) (Ig Z ho1) Z O<|Ac hg gN (v:=.ptr id 97) (Gk Z ho1) Z O<|Ah hg gN (storeNm Z Z ho1 hcl0 (by rw[List.set_set]))<|Ba<|ExM.seq<|ExM.ops hg<|Ac hg gN Z Z O<|Ac hg gN Z Z O<|Ba<|ExM.block ?_;refine ExM.loopJ (σ:=Nat×List Int) (τ:=Wr) (λ⟨i,c⟩=>⟨.al [(0,.ptr id 0),(2,.bool up),(6,.int .i64 ((i:Nat):Int))],H.set id<|.cells T (nb b (c) false) false,41⟩) (λ⟨i,c⟩=>i≤88∧c.length=96∧Dg9 c∧Hi0 c) (λ⟨i,c⟩=>88-i) ⟨k,clr l k⟩ 0 (λ⟨c⟩=>⟨.al [],H.set id<|.cells T (nb b (c) false) false,41⟩) (λ⟨c⟩=>c.length=96∧Dg9 c) (An Z Z<|sbC Z<|sbC Z<|sbC Z<|sbN) ⟨Y,hcl0,hd.clr k,hz.clr k⟩ ?_ ?_
 ·rintro⟨i,c⟩ ⟨hi,hcl,hcd,hcz⟩;have hi:i≤88:=hi;have hcl:c.length=96:=hcl;have hcd:Dg9 c:=hcd;have hcz:Hi0 c:=hcz;have hoc:∀{x:List Int},(H.set id<|.cells T (nb b x false) false)[id]?=some (.cells T (nb b x false) false):=gT hid;have hgi:=hcd i;cases up with
  |false=>refine sq<|sO<|x1 Z<|cF Z ?_;exact ExM.exit<|.inl ⟨Z,⟨c⟩,⟨hcl,hcd⟩,An Z Z<|sbN⟩
  |true=>
   refine sq<|sO<|x1 Z<|cT Z<|kM<|sq<|bM<|sq<|sq ?_;refine ExM.drawL hg ?_;refine Ak (v:=.ptr id 0) Z Z O<|qV Z<|Ak (v:=.ptr id 0) (Ig Z hoc) Z O<|Ak (v:=.ptr id 1) (Gk Z hoc) Z O<|Ak (v:=.ptr id<|1+i) (V8 Z Z hoc) Z A2m<|Ak (v:=.int .i8<|c.getD i 0) (Wz Z hoc Y) Z O<|qKv (v:=.int .i8<|c.getD i 0+1) Z Z O (congrArg (AVal.int .i8)<|w8 Y Y)<|Ak (v:=.ptr id 0) (Ig Z hoc) Z O<|Ak (v:=.ptr id 1) (Gk Z hoc) Z O<|Ak (v:=.ptr id<|1+i) (V8 Z Z hoc) Z A2m<|Dl<|?_;refine zSkip (Xo (H':=H.set id<|.cells T (nb b ((c.set i<|c.getD i 0+1)) false) false) Z Z hoc Y (by simp_all)) ?_;refine sO<|m2 Z Z<|mV (v:=.ptr id 0) (Ig Z hoc)<|mV (v:=.ptr id 1) (Gk Z hoc)<|Ac hg gN (v:=.ptr id<|1+i) (V8 Z Z hoc) Z A2m<|mV (v:=.int .i8<|(c.set i<|c.getD i 0+1).getD i 0) (Wz Z hoc (by grind)) ?_;refine mB hg gN Z Z O (λh1=>?_)<|λh1=>?_
   ·have hv:c.getD i 0+1<10:=by grind
    refine mn<|cT Z ?_;refine ExM.ret ?_;refine .inr ?_;exact⟨.tup [],_,⟨(c.set i<|c.getD i 0+1),Z,Z,by grind,hcd.set Y Y⟩,A6 (vs:=[]) trivial rfl rfl rfl⟩
   ·have hv:¬c.getD i 0+1<10:=by grind
    have hi8:i<88:=by
     rcases Nat.lt_or_ge i 88 with h|h;·exact h
     ·have:=hcz i h;omega
    refine mn<|cF Z<|kM<|oM<|m2 Z Z<|mV (v:=.ptr id 0) (Ig Z hoc)<|mV (v:=.ptr id 1) (Gk Z hoc)<|Ac hg gN (v:=.ptr id<|1+i) (V8 Z Z hoc) Z A2m<|Ah hg gN (Xo Z Z hoc (by grind) (by rw[List.set_set]))<|mn<|oM<|mV Z<|mI ((i+1:Nat):Int) Z<|x1 Z ?_;exact⟨⟨i+1,(c.set i<|c.getD i 0+1).set i 0⟩,⟨(Y:i+1≤88),(by grind),(λn=>by rw[List.set_set];exact hcd.set (Int.le_refl _) V n),(λn hn=>by rw[List.set_set];exact hcz.set (.inl hi8) n hn)⟩,(by grind),An Z Z<|sbC Z<|sbC Z<|sbC Z<|sbN⟩
 ·rintro⟨c⟩ s' hJ hs;exact⟨.tup [],_,⟨c,Z,hs.H.symm,hJ.1,hJ.2⟩,(A6 (rs:=[]) (vs:=[]) O Z Z Z:Iy [] H.length (.tup []) _ .normal s')⟩
theorem Ad4 {r M d:Nat}(h:(M+1)*10^(r+1)≤1000000000000000)(hd:d≤9):(10*M+d+1)*10^r≤1000000000000000:=by have:(10*M+d+1)*10^r≤((M+1)*10)*10^r:=Nat.mul_le_mul_right _ Y;grind
theorem Acs {r M:Nat}(h:(M+1)*10^r≤1000000000000000):M<1000000000000000:=by have h1:1≤10^r:=Nat.one_le_pow _ _ V;have:(M+1)*1≤(M+1)*10^r:=Nat.mul_le_mul_left _ h1;omega
theorem tdivN (M:Nat):((M:Nat):Int).tdiv 10=((M/10:Nat):Int):=by grind
theorem Ac3 (M:Nat):((M:Nat):Int).tmod 10=((M%10:Nat):Int):=by grind
structure ME where
 M:Nat
 E:Int
theorem A4l (hg:hGr W0 G){o0 o1:HObj}{b m:Bool}{l:List Int}(hl:l.length=96)(hd:Dg9 l){k:Nat}{t:Int}(hk:39≤k∧k≤57)(_:-1≤t)(ht1:t≤95)(ht:t<((k:Nat):Int)+15)(hb:B9 3 [o0,o1,HObj.cells 222 (nb b l m) false]=true):I8 Tryz.prog W0 223 [.ptr 2 0,.int .i64 t,.int .i64 ((k:Nat):Int)] [o0,o1,HObj.cells 222 (nb b l m) false] (λv X=>X=[o0,o1,HObj.cells 222 (nb b l m) false]∧∃M E:Int,v= .agg [.int .i64 M,.int .i64 E]∧-1000000000000000<M∧M<1000000000000000∧-9≤E∧E≤9):=by
 refine goQ 223 61 ?_;refine ExM.seq<|ExM.ops hg<|Ac hg gN Z Z O<|Ba<|ExM.seq<|ExM.ops hg<|Ac hg gN Z Z O<|Ac hg gN Z Z O<|Ah hg gN Z<|Ba<|ExM.seq<|ExM.seq<|ExM.ops hg<|Ac hg gN Z Z O<|Ac hg gN Z Z O<|Ba<|ExM.block ?_;refine ExM.loopJ (σ:=ME) (τ:=Nat) (λ⟨M,i⟩=>⟨.al [(0,.ptr 2 0),(2,.int .i64 ((k:Nat):Int)),(6,.ptr 3 0),(7,.ptr 4 0),(8,.int .i64 i)],[o0,o1,HObj.cells 222 (nb b l m) false,HObj.cells 61 z5L false,HObj.cells 61 [.int .i64<|((M:Nat):Int),.int .i64<|0] false],61⟩) (λ⟨M,i⟩=>i≤95∧i<((k:Nat):Int)+15∧(M+1)*10^(i-((k:Nat):Int)+1).toNat≤1000000000000000) (λ⟨M,i⟩=>(i-((k:Nat):Int)+1).toNat) ⟨0,t⟩ 0 (λM=>⟨.al [(0,.ptr 2 0),(2,.int .i64 ((k:Nat):Int)),(6,.ptr 3 0),(7,.ptr 4 0)],[o0,o1,HObj.cells 222 (nb b l m) false,HObj.cells 61 z5L false,HObj.cells 61 [.int .i64<|((M:Nat):Int),.int .i64<|0] false],61⟩) (λM=>M<1000000000000000) (An Z Z<|sb4 Z Z Z Z<|(((sbC Z<|sbN)))) ⟨ht1,ht,by show(0+1)*10^(t-((k:Nat):Int)+1).toNat≤10^15;rw[Nat.zero_add,Nat.one_mul];exact Nat.pow_le_pow_right V Y⟩ ?_ ?_
 ·rintro⟨M,i⟩ ⟨hi,hi2,hM⟩;have hi:i≤95:=hi;have hi2:i<((k:Nat):Int)+15:=hi2;have hM:(M+1)*10^(i-((k:Nat):Int)+1).toNat≤1000000000000000:=hM;refine sq<|sO<|m2 Z Z ?_;by_cases hik:i<((k:Nat):Int);·refine mF Z<|mn<|cF Z<|ExM.exit ?_;exact .inl ⟨Z,M,(Acs hM),An Z Z<|sb4 Z Z Z Z<|(((sbN)))⟩
  obtain⟨r,hr⟩:∃r:Nat,i=((k+r:Nat):Int):=⟨(i-((k:Nat):Int)).toNat,Y⟩;rw[show(i-((k:Nat):Int)+1).toNat=r+1 from by omega]at hM;have hMl:=Acs hM;have hdk:=hd<|k+r;obtain⟨d,hd0⟩:∃d:Nat,l.getD (k+r) 0=(d:Nat):=⟨(l.getD (k+r) 0).toNat,Y⟩;refine mT Z<|mn<|cT Z<|kM<|sq<|bM<|ExM.drawL hg<|Ak Z Z O<|Ak (v:=.int .i64 ((M:Nat):Int)) Z Z O<|qKv (v:=.int .i64 ((10*M:Nat):Int)) Z Z O (Bj Y Y Y)<|Ak Z Z O<|qKv (v:=.int .i64 ((k+r:Nat):Int)) Z Z O (iE Y)<|Ak (v:=.ptr 2 0) (Ig Z Z) Z O<|Ak (v:=.ptr 2 1) (Gk Z Z) Z O<|Ak (v:=.ptr 2<|1+(k+r)) (V8 Z Z Z) Z Ld<|Ak (v:=.int .i8<|l.getD (k+r) 0) (Wz Z Z Y) Z O<|qKv (v:=.int .i64 ((d:Nat):Int)) Z Z O (by grind[Bj])<|qKv (v:=.int .i64 ((10*M+d:Nat):Int)) Z Z (by simp_all[Ag]) (Bj Y Y Y)<|Ak Z Z O<|Dl<|zSkip Z<|ExM.ops hg<|Ac hg gN Z Z O<|mKv hg gN (v:=.int .i64<|i-1) Z Z O (Bj Y Y Y)<|Ac hg gN Z Z O<|Ba ?_;exact⟨⟨10*M+d,i-1⟩,⟨Y,Y,by show(10*M+d+1)*10^(i-1-((k:Nat):Int)+1).toNat≤1000000000000000;rw[show(i-1-((k:Nat):Int)+1).toNat=r from by omega];exact Ad4 hM Y⟩,(by grind),An rfl rfl<|sb4 Z Z Z Z<|(((sbC Z<|sbN)))⟩
 ·rintro M s' hJ hs;have hM:M<1000000000000000:=hJ;refine ExM.sub hs ?_;refine sq<|sO<|mV Z<|mV (v:=.int .i64 ((M:Nat):Int)) Z ?_;refine mB hg gN Z Z O (λh1=>?_)<|λh1=>?_;·refine mn<|cT Z<|sO<|mV Z<|Ah hg gN Z<|mn<|ExM.ret ?_;exact⟨_,_,⟨Z,0,0,Z,Y,Y,Y,Y⟩,A4 O Z hb 100 Z Z⟩
  ·have hM0:0<M:=by grind
   refine mn<|cF Z<|kM<|sq<|sO<|mV Z<|mI (((k:Nat):Int)-48) Z<|mV Z<|Ah hg gN Z<|mn<|bM ?_;refine ExM.loopJ (σ:=ME) (τ:=ME) (λ⟨M,E⟩=>⟨.al [(0,.ptr 2 0),(6,.ptr 3 0),(7,.ptr 4 0)],[o0,o1,HObj.cells 222 (nb b l m) false,HObj.cells 61 z5L false,HObj.cells 61 [.int .i64<|((M:Nat):Int),.int .i64<|E] false],61⟩) (λ⟨M,E⟩=>0<M∧M<1000000000000000∧-9≤E∧E≤9) (λ⟨M,E⟩=>(9-E).toNat) ⟨M,((k:Nat):Int)-48⟩ 2 (λ⟨M,E⟩=>⟨.al [(0,.ptr 2 0),(6,.ptr 3 0),(7,.ptr 4 0)],[o0,o1,HObj.cells 222 (nb b l m) false,HObj.cells 61 z5L false,HObj.cells 61 [.int .i64<|((M:Nat):Int),.int .i64<|E] false],61⟩) (λ⟨M,E⟩=>M<1000000000000000∧-9≤E∧E≤9) (An Z Z<|sbC Z<|sbC Z<|sbC Z<|sbN) ⟨hM0,hM,Y,Y⟩ ?_ ?_
   ·rintro⟨M,E⟩ ⟨hM0,hM,hE0,hE⟩;have hM0:0<M:=hM0;have hM:M<1000000000000000:=hM;have hE0:-9≤E:=hE0;have hE:E≤9:=hE;refine sq<|sO<|m2 Z Z<|mKv hg gN (v:=.int .i64 ((M%10:Nat):Int)) Z Z (by simp_all[Ag]) (congrArg (AVal.int .i64)<|Ac3 M) ?_;by_cases hm:M%10=0
    ·refine mBk hg gN (c:=true) Z Z (by rw[hm];rfl)<|m3 Z Z Z ?_;by_cases he:E<9;·refine mT Z<|x1 Z<|cT Z<|kM<|sq<|bM<|oM<|m2 Z Z<|mKv hg gN (v:=.int .i64 ((M/10:Nat):Int)) Z Z (by simp_all[Ag]) (by grind[Bj])<|mV Z<|Ah hg gN Z<|mn<|oM<|m2 Z Z<|mI (E+1) Z<|mV Z<|Ah hg gN Z<|mn ?_;exact⟨⟨M/10,E+1⟩,⟨Y,Y,Y,Y⟩,(by grind),An Z Z<|sbC Z<|sbC Z<|sbC Z<|sbN⟩
     ·refine mF Z<|x1 Z<|cF Z<|ExM.exit ?_;exact .inl ⟨Z,⟨M,E⟩,⟨hM,hE0,hE⟩,An Z Z<|sbC Z<|sbC Z<|sbC Z<|sbN⟩
    ·refine mF Z<|mV Z<|mG<|mG<|mG<|x1 Z<|cF Z<|ExM.exit ?_;exact .inl ⟨Z,⟨M,E⟩,⟨hM,hE0,hE⟩,An Z Z<|sbC Z<|sbC Z<|sbC Z<|sbN⟩
   ·rintro⟨M,E⟩ s' hJ hs;have hM:M<1000000000000000:=hJ.1;have hE0:-9≤E:=hJ.2.1;have hE:E≤9:=hJ.2.2;refine ExM.sub hs ?_;refine sq<|sO<|mV Z<|mV (v:=.ptr 2 0) (Ig Z Z)<|mV (v:=.ptr 2 0) (Gk Z Z)<|mV (v:=.bool b) (loadNb Z Z)<|mn ?_;refine ExM.cond hg Z (λh2=>?_)<|λh2=>?_;·refine oM<|m2 Z Z<|mI (-((M:Nat):Int)) Z<|mV Z<|Ah hg gN Z<|mn<|sO<|mV Z<|Ah hg gN Z<|mn<|ExM.ret ?_;exact⟨_,_,⟨Z,_,E,Z,Y,Y,Y,Y⟩,A4 O Z hb 100 Z Z⟩
    ·refine kM<|sO<|mV Z<|Ah hg gN Z<|mn<|ExM.ret ?_;exact⟨_,_,⟨Z,_,E,Z,Y,Y,Y,Y⟩,A4 O Z hb 100 Z Z⟩
end Go.Abs
