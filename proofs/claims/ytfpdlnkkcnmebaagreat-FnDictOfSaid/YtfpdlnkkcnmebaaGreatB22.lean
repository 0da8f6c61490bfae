import Derived.Test.YtfpdlnkkcnmebaaGreatB21
set_option maxHeartbeats 4000000
set_option linter.unusedVariables false
set_option linter.unusedSimpArgs false
set_option linter.unusedSectionVars false
namespace Go.Proofs.YtfpdlnkkcnmebaaGreat
open Go Go.Eng
attribute [local irreducible] V VO VQ VY Quiet QR jI mK Rng qE qA pX
def gTr(f:jT):Option (Bool):=
bnd ((cnd (!(pF f.name)) ((some true)) ((cnd (decide ((f.params.length:Int) > 4)) ((some true)) (bnd (gPi f.params [[115,101,108,102]]) fun x4=>
(cnd (!x4) ((some true)) (bnd (gEc f.result [[115,101,108,102]]) fun x6=>
(some (!x6))))))))) fun b1=>
(cnd b1 (
(some false)) (
(cnd (!f.hasDefault) (
bnd ((cnd ((f.vars.length:Int)==0) (bnd (gQs f.body) fun h=>
(some h)) ((some false)))) fun b9=>
(some b9)) (
bnd (zJ f.vars 5) fun q=>
bnd ((cnd q ((cnd ((f.vars.length:Int)==(IntKind.i64.wrap ((f.params.length:Int)+1))) (bnd (gKt f.body f.vars) fun y=>
(some y)) ((some false)))) ((some false)))) fun aa=>
(some aa)))))
theorem hG6(a0:jT){r:Bool}(h:gTr a0=some r):jI Tryz.prog 227 [.d (gG0 a0)] [.b r]:=by
 obtain⟨ak,al,⟨aa,ab,ac⟩,am,an,⟨ad,ae,ag,ah,⟨f,q,y⟩,ai,aj⟩⟩:=a0;unfold gTr at h;refine SpI Tryz.func227 fun A _=>?_;refine goL ?_;refine jP (gI (uH ak)) ?_;obtain⟨b1,hb1,h⟩:=gJ h;refine kH ⟨[(1,.ptr 0 0),(26,.B b1)],[bSg ak al aa ab ac am an ad ae ag ah f q y ai aj],Tryz.f227.ntmps⟩ ?_ ?_
 ·refine wW 7 (fun c2=>?_) (fun c2=>?_) (by first | rfl | (simp only [kE,jO];rfl))
  ·replace hb1:=kU c2 hb1;refine goL ?_;cases hb1;exact⟨rfl,⟨⟨rfl,rfl⟩,⟨by first | rfl | (simp only [kE,jO];rfl),rfl⟩,trivial⟩,⟨_,rfl⟩,rfl⟩
  ·replace hb1:=kV c2 hb1;refine goL ?_;refine wW 13 (fun c3=>?_) (fun c3=>?_) (by first | rfl | (simp only [kE,jO];rfl))
   ·replace hb1:=kU c3 hb1;refine goL ?_;cases hb1;exact⟨rfl,⟨⟨rfl,rfl⟩,⟨by first | rfl | (simp only [kE,jO];rfl),rfl⟩,trivial⟩,⟨_,rfl⟩,rfl⟩
   ·replace hb1:=kV c3 hb1;refine goL ?_;refine gRd ?_;refine wX ([115,101,108,102]:LB) ?_;refine gRd ?_;obtain⟨x4,ay,hb1⟩:=gJ hb1;refine yT (gUa (gYn al [[115,101,108,102]] ay)) ?_;refine wW 20 (fun c5=>?_) (fun c5=>?_) (by first | rfl | (simp only [kE,jO];rfl))
    ·replace hb1:=kU c5 hb1;refine goL ?_;cases hb1;exact⟨rfl,⟨⟨rfl,rfl⟩,⟨by first | rfl | (simp only [kE,jO];rfl),rfl⟩,trivial⟩,⟨_,rfl⟩,rfl⟩
    ·replace hb1:=kV c5 hb1;refine goL ?_;refine gRd ?_;refine wX ([115,101,108,102]:LB) ?_;refine gRd ?_;obtain⟨x6,a4,hb1⟩:=gJ hb1;refine yT (gUa (gG6 (gB.mk aa ab ac) [[115,101,108,102]] a4)) ?_;cases hb1;exact⟨rfl,⟨⟨rfl,rfl⟩,⟨by first | rfl | (simp only [kE,jO];rfl),rfl⟩,trivial⟩,⟨_,rfl⟩,rfl⟩
 refine goC h ?_ ?_<;>intro c7 h
 ·exact goR h
 ·refine goS ?_;refine mR (fun c8=>?_) (fun c8=>?_)
  ·replace h:=kU c8 h;refine goL ?_;obtain⟨b9,hb9,h⟩:=gJ h;refine kH ⟨[(2,.B b9)],[bSg ak al aa ab ac am an ad ae ag ah f q y ai aj],Tryz.f227.ntmps⟩ ?_ ?_
   ·refine gqA 34 hb9 (fun a9 hb9=>?_);obtain⟨ba,aq,hb9⟩:=gJ hb9;refine jP (gI (hCz _ aq)) ?_;cases hb9;exact eJ
   exact goR h
  ·replace h:=kV c8 h;refine goS ?_;obtain⟨bb,ar,h⟩:=gJ h;refine jP (gI (gAy _ _ ar)) ?_;obtain⟨a6,hb13,h⟩:=gJ h;refine kH ⟨[(2,.B a6)],[bSg ak al aa ab ac am an ad ae ag ah f q y ai aj],Tryz.f227.ntmps⟩ ?_ ?_
   ·refine wW 42 (fun ao=>?_) (fun ao=>?_) (by first | rfl | (simp only [kE,jO];rfl))
    ·replace hb13:=kU ao hb13;refine goL ?_;refine gRd ?_;refine jP (pV) ?_;refine wW 52 (fun ap=>?_) (fun ap=>?_) (by first | rfl | (simp only [kE,jO];rfl))
     ·replace hb13:=kU ap hb13;refine goL ?_;refine gRd ?_;obtain⟨bc,au,hb13⟩:=gJ hb13;refine jP (gI (gQk _ _ au)) ?_;cases hb13;exact⟨rfl,⟨⟨by first | rfl | (simp only [kE,jO];rfl),rfl⟩,trivial⟩,⟨_,rfl⟩,rfl⟩
     ·replace hb13:=kV ap hb13;refine goL ?_;cases hb13;exact⟨rfl,⟨⟨by first | rfl | (simp only [kE,jO];rfl),rfl⟩,trivial⟩,⟨_,rfl⟩,rfl⟩
    ·replace hb13:=kV ao hb13;refine goL ?_;cases hb13;exact⟨rfl,⟨⟨by first | rfl | (simp only [kE,jO];rfl),rfl⟩,trivial⟩,⟨_,rfl⟩,rfl⟩
   exact goR h
def wL(a0:kG)(x4:gF):List jC→(List gF)→Option (gF)
 | [],y=>bnd (gB0 a0) fun aa=>
bnd (gOh aa (gF.mk x4.atom y)) fun ab=>
(some ab)
 | q::xs,y=>lt_ (pG q.name) fun f=>
bnd (gL6 q.fields) fun h=>
gd ([f].length+h.length≤4294967296) (
gd (y.length+[(gF.mk [] ([f]++h))].length≤4294967296) (
wL a0 x4 xs (y++[(gF.mk [] ([f]++h))])))
def gEe(f:kG):Option (gF):=
lt_ (pG [100,97,116,97]) fun q=>
lt_ (pG f.name) fun y=>
bnd (gBu f.vars) fun x3=>
bnd (gJi [q,y,x3]) fun h=>
wL f h f.constructors h.list
theorem gNc(a0:kG){r:gF}(h:gEe a0=some r):jI Tryz.prog 205 [.d (gDk a0)] [qJ r]:=by
 obtain⟨ah,ai,ae⟩:=a0;unfold gEe at h;refine SpI Tryz.func205 fun A _=>?_;refine gIb ?_;obtain⟨⟨f,y⟩,a7,h⟩:=uK h;have sx1:=pR [100,97,116,97];rw [a7] at sx1;obtain⟨⟨aa,ab⟩,a8,h⟩:=uK h;have sx2:=pR ah;rw [a8] at sx2;obtain⟨⟨ac,ad⟩,a9,h⟩:=gJ h;obtain⟨⟨aj,ak⟩,aq,h⟩:=gJ h;refine uC (P:=Tryz.prog) Mix.h (q3T 0 (q3T 3 (.q 6 (.h 7 (.h 8 (hcT 9 (hzT 10)) (hcT 9 (hcT 8 (hzT 10)))) (hcT 9 (hcT 7 (hcT 8 (hzT 10)))))))) ⟨[(1,.ptr 0 0),(2,.ptr 1 0),(3,.ptr 4 0)],[bDa ah ai ae,.box [.S [],.nilsl],.frz 223 2 0 (jB [(gF.mk f y),(gF.mk aa ab),(gF.mk ac ad)]),.arr 223 2 0 (jB ak),.box [.S aj,.sl 3 0]],Tryz.f205.ntmps⟩ (by kernel_rfl) ?_ ?_
 ·refine gGt (jW rfl (gI (sx1)) gZ) ?_;refine goT ?_;refine gGt (jW rfl (gI (sx2)) gZ) ?_;refine goT ?_;refine gGt (jW rfl (gI (vL _ a9)) gZ) ?_;refine uD (kT (T:=221) (us:=jB [(gF.mk f y),(gF.mk aa ab),(gF.mk ac ad)]) gZ) ?_ ?_
  ·refine uD (qC 2 rfl rfl (gDm (sv:=.ag [.S aj,.sl 3 0]) (L':=[bDa ah ai ae,.box [.S [],.nilsl],.frz 223 2 0 (jB [(gF.mk f y),(gF.mk aa ab),(gF.mk ac ad)]),.arr 223 2 0 (jB ak)]) [] (wD [(gF.mk f y),(gF.mk aa ab),(gF.mk ac ad)] aq) gZ)) ?_ ?_
   ·refine goT ?_;refine jL ?_;exact pQ 0 [0,1,2,3,4]
   refine goT ?_;refine gQ (qC 2 rfl rfl (gDm (sv:=.ag [.S aj,.sl 4 0]) (L':=[bDa ah ai ae,.box [.S [],.nilsl],.frz 223 2 0 (jB [(gF.mk f y),(gF.mk aa ab),(gF.mk ac ad)]),.box [.S [],.nilsl],.arr 223 2 0 (jB ak)]) [] (wD [(gF.mk f y),(gF.mk aa ab),(gF.mk ac ad)] aq) gZ)) ?_;refine goT ?_;refine jL ?_;exact pQ 0 [0,1,2,4,3]
  refine goT ?_;refine gQ (kT (T:=221) (us:=jB [(gF.mk f y),(gF.mk aa ab),(gF.mk ac ad)]) gZ) ?_;refine gQ (qC 3 rfl rfl (gDm (sv:=.ag [.S aj,.sl 4 0]) (L':=[bDa ah ai ae,.box [.S [],.nilsl],.box [.S [],.nilsl],.frz 223 2 0 (jB [(gF.mk f y),(gF.mk aa ab),(gF.mk ac ad)]),.arr 223 2 0 (jB ak)]) [] (wD [(gF.mk f y),(gF.mk aa ab),(gF.mk ac ad)] aq) gZ)) ?_;refine goT ?_;refine jL ?_;exact pQ 0 [0,1,3,4,2]
 refine goL ?_;refine noB ?_;refine yC 0 2 (fun z8=>?_);refine mG (fun(y7:Nat)(y5:List gF)(v6:Nat)=>⟨[(1,.ptr 0 0),(2,.ptr 1 0),(3,.ptr 4 0),(4,.N y7)],[bDa ah ai ae,.box [.S [],.nilsl],.frz 223 2 0 (jB [(gF.mk f y),(gF.mk aa ab),(gF.mk ac ad)]),.arr 223 2 v6 (jB y5),.box [.S aj,.sl 3 v6]],Tryz.f205.ntmps⟩) (fun y7 y5 v6=>wL (kG.mk ah ai ae) (gF.mk aj ak) (ae.drop y7) y5=some r) (fun y7 y5 v6=>ae.length - y7) 0 ak 0 eJ h ?_;rintro y7 y5 v6 h;refine goL ?_;refine mR (fun c9=>?_) (fun c9=>?_)
 ·have al:=vR c9;obtain⟨bb,ap,ar⟩:=drop_at al;rw [ar,wL.eq_2] at h;obtain⟨au,bc⟩:=bb;refine noS ?_;refine kI (jA ?_);refine yL (P:=Tryz.prog) Mix.h [(0,true),(1,true),(2,true),(3,true),(4,true),(5,true),(6,true),(7,true),(8,true),(10,true),(11,true),(12,true),(13,true),(14,true),(15,true),(16,true),(9,false),(17,false),(18,true),(19,false),(20,false),(21,true),(22,false)] (by kernel_rfl) ?_;refine goY ?_;refine jW rfl (jR y7 (gA5 ap)) ?_;refine goY ?_;obtain⟨⟨am,an⟩,ax,h⟩:=uK h;have sx11:=pR au;rw [ax] at sx11;refine jW rfl (gI (sx11)) ?_;refine goY ?_;refine jW rfl (jR y7 (gA5 ap)) ?_;refine goY ?_;obtain⟨ay,a3,h⟩:=gJ h;refine jW rfl (gI (gSv _ a3)) ?_;refine kT (T:=221) (us:=jB [(gF.mk am an)]) ?_;obtain⟨bd,h⟩:=pU h;refine kN (T:=221) bd ?_;refine goY ?_;refine qC 5 rfl rfl ?_;refine kT (T:=221) (us:=jB [(gF.mk [] ([(gF.mk am an)]++ay))]) ?_;obtain⟨be,h⟩:=pU h;refine kN (T:=221) be ?_;refine goY ?_;refine mJ ?_;refine goL ?_;refine jP (kD y7 (by omega)) ?_;exact⟨(y7+1),(y5++[(gF.mk [] ([(gF.mk am an)]++ay))]),(v6+1),h,by omega,eJ⟩
 ·have al:=vS c9;rw [jK al,wL.eq_1] at h;refine noX ?_;refine gV 3 rfl rfl ?_;refine hPl ?_;refine jS (P:=Tryz.prog) Mix.h [(0,true),(1,true),(2,true),(3,true),(4,false)] (by kernel_rfl) ?_;refine goY ?_;obtain⟨bh,a4,h⟩:=gJ h;refine jW rfl (gI (gH4 _ a4)) ?_;refine goY ?_;obtain⟨⟨bf,bg⟩,a5,h⟩:=gJ h;refine jW rfl (gI (gTq _ _ a5)) ?_;refine goY ?_;refine mJ ?_;exact goR h
def wM:List jG→LS→Option (Bool)
 | [],h=>bnd (zJ h 6) fun q=>
(some q)
 | f::xs,h=>bnd ((cnd ((f.vars.length:Int)==0) ((some true)) (bnd (zJ f.vars 5) fun y=>
(cnd (!y) ((some true)) (bnd (gKt f.body f.vars) fun aa=>
(some (!aa))))))) fun ab=>
(cnd ab (
(some false)) (
gd (h.length+[f.name].length≤4294967296) (
wM xs (h++[f.name]))))
def wN(f:jD):LS→Option (Bool)
 | []=>bnd ((cnd f.hasAssoc (bnd (gEc f.assoc f.vars) fun h=>
(cnd (!h) ((some true)) ((cnd (!f.hasAssoc) ((some (!(gAw f.assoc)))) ((some false)))))) ((cnd (!f.hasAssoc) ((some (!(gAw f.assoc)))) ((some false)))))) fun q=>
(cnd q (
(some false)) (
wM f.methods []))
 | y::xs=>bnd (gMx y f.head) fun aa=>
(cnd (!aa) (
(some false)) (
wN f xs ))
def gB1(f:jD):Option (Bool):=
bnd ((cnd (!(pF f.trait)) ((some true)) (bnd (zJ f.vars 3) fun q=>
(cnd (!q) ((some true)) (bnd (gEc f.head f.vars) fun y=>
(cnd (!y) ((some true)) (bnd (vY 5000 f.head) fun x7=>
(cnd x7 ((some true)) ((cnd (f.head.kind==4) ((some true)) (bnd (gL3 f.where_ f.vars) fun h=>
(some (!h))))))))))))) fun b1=>
(cnd b1 (
(some false)) (
wN f f.vars ))
theorem gH5(a0:jD){r:Bool}(h:gB1 a0=some r):jI Tryz.prog 213 [.d (gBq a0)] [.b r]:=by
 obtain⟨ag,ad,⟨aa,ab,ac⟩,ai,aj,ak,⟨f,q,y⟩,ae⟩:=a0;unfold gB1 at h;refine SpI Tryz.func213 fun A _=>?_;refine goL ?_;refine jP (gI (uH ag)) ?_;obtain⟨b1,hb1,h⟩:=gJ h;refine kH ⟨[(1,.ptr 0 0),(43,.B b1)],[bIn ag ad aa ab ac ai aj ak f q y ae],Tryz.f213.ntmps⟩ ?_ ?_
 ·refine gqO 11 hb1 (fun c2 hb1=>?_);obtain⟨x3,bk,hb1⟩:=gJ hb1;refine jP (gI (gAy _ _ bk)) ?_;refine gqO 17 hb1 (fun c4 hb1=>?_);obtain⟨x5,bl,hb1⟩:=gJ hb1;refine jP (gI (gG6 _ _ bl)) ?_;refine gqO 25 hb1 (fun c6 hb1=>?_);obtain⟨x7,bm,hb1⟩:=gJ hb1;refine jP (gI (gGk _ _ bm)) ?_;refine gqO 30 hb1 (fun c8 hb1=>?_);refine gqO 36 hb1 (fun c9 hb1=>?_);obtain⟨bt,bb,hb1⟩:=gJ hb1;refine jP (gI (gSt _ _ bb)) ?_;cases hb1;exact eJ
 refine goC h ?_ ?_<;>intro bu h
 ·exact goR h
 ·refine goS ?_;refine noB ?_;refine yC 0 1 (fun bv=>?_);refine pY (fun(al:Nat)=>⟨[(1,.ptr 0 0),(3,.N al)],[bIn ag ad aa ab ac ai aj ak f q y ae],Tryz.f213.ntmps⟩) (fun al=>wN (jD.mk ag ad (gB.mk aa ab ac) ai aj ak (gB.mk f q y) ae) (ad.drop al)  =some r) (fun al=>ad.length - al) 0 eJ h ?_;rintro al h;refine goL ?_;refine mR (fun a6=>?_) (fun a6=>?_)
  ·have am:=vR a6;obtain⟨bw,bc,a7⟩:=drop_at am;rw [a7,wN.eq_2] at h;refine noS ?_;refine kI (jA ?_);refine goL ?_;refine gDi (jR al (gO7 bc)) ?_;refine goL ?_;obtain⟨bx,bd,h⟩:=gJ h;refine gDi (gI (gWz _ _ bd)) ?_;refine goC h ?_ ?_<;>intro bz h
   ·exact goR h
   ·refine goS ?_;refine jP (kD al (by omega)) ?_;exact⟨(al+1),h,by omega,eJ⟩
  ·have am:=vS a6;rw [jK am,wN.eq_1] at h;refine goX ?_;obtain⟨bn,hb18,h⟩:=gJ h;refine kH ⟨[(1,.ptr 0 0),(80,.B bn)],[bIn ag ad aa ab ac ai aj ak f q y ae],Tryz.f213.ntmps⟩ ?_ ?_
   ·refine gqV 62 hb18 ?_ ?_<;>intro b0 hb18
    ·obtain⟨b2,be,hb18⟩:=gJ hb18;refine jP (gI (gG6 _ _ be)) ?_;refine gqO 70 hb18 (fun b3 hb18=>?_);refine gqA 74 hb18 (fun b4 hb18=>?_);refine jP (gI (gDn (gB.mk f q y))) ?_;cases hb18;exact eJ
    ·refine gqA 74 hb18 (fun b5 hb18=>?_);refine jP (gI (gDn (gB.mk f q y))) ?_;cases hb18;exact eJ
   refine goC h ?_ ?_<;>intro b6 h
   ·exact goR h
   ·refine goS ?_;refine gC1 ?_;refine goL ?_;refine noB ?_;refine yC 0 11 (fun b7=>?_);refine mG (fun(ah:Nat)(ao:LS)(ap:Nat)=>⟨[(1,.ptr 0 0),(4,.sl 1 ap),(5,.N ah)],[bIn ag ad aa ab ac ai aj ak f q y ae,.own 9 1 ap (gT ao)],Tryz.f213.ntmps⟩) (fun ah ao ap=>wM (ae.drop ah) ao=some r) (fun ah ao ap=>ae.length - ah) 0 [] 0 eJ h ?_;rintro ah ao ap h;refine goL ?_;refine mR (fun a8=>?_) (fun a8=>?_)
    ·have an:=vR a8;obtain⟨bo,bf,a9⟩:=drop_at an;rw [a9,wM.eq_2] at h;obtain⟨aq,ba,⟨aw,ax,ay,a3,⟨ar,au,av⟩,a4,a5⟩⟩:=bo;refine noS ?_;refine kI (jA ?_);refine goL ?_;refine jP (jR ah (hDx bf)) ?_;obtain⟨bp,hb31,h⟩:=gJ h;refine kH ⟨[(1,.ptr 0 0),(4,.sl 1 ap),(5,.N ah),(6,.ptr 2 0),(111,.B bp)],[bIn ag ad aa ab ac ai aj ak f q y ae,.own 9 1 ap (gT ao),.box [.S aq,.L 1 (gT ba),.I aw,.S ax,.S ay,.I a3,.I ar,.S au,.L 3 (gN av),.L 9 (kQ a4),.L 11 (uZ a5)]],Tryz.f213.ntmps⟩ ?_ ?_
     ·refine gqO 98 hb31 (fun b8 hb31=>?_);obtain⟨b9,bg,hb31⟩:=gJ hb31;refine jP (gI (gAy _ _ bg)) ?_;refine gqO 104 hb31 (fun ca hb31=>?_);obtain⟨cb,bh,hb31⟩:=gJ hb31;refine jP (gI (gQk _ _ bh)) ?_;cases hb31;exact eJ
     refine goC h ?_ ?_<;>intro cc h
     ·exact goR h
     ·refine goS ?_;refine wX aq ?_;obtain⟨bq,h⟩:=pU h;refine gDl bq ?_;refine goL ?_;refine jP (kD ah (by omega)) ?_;exact⟨(ah+1),(ao++[aq]),(ap+1),h,by omega,eJ⟩
    ·have an:=vS a8;rw [jK an,wM.eq_1] at h;refine goX ?_;obtain⟨cd,bi,h⟩:=gJ h;refine vP (gUa (gAy ao 6 bi)) ?_;exact goR h
def wO(f:kX):List vQ→LS→Option (Bool)
 | [],h=>bnd ((cnd (pF f.name) (bnd (zJ f.vars 3) fun q=>
(cnd q (bnd (gL3 f.where_ f.vars) fun y=>
(cnd y (bnd (zJ h 5) fun aa=>
(cnd aa (bnd (gEc f.result f.vars) fun ab=>
(cnd ab (bnd (gKt f.body h) fun ac=>
(some ac)) ((some false)))) ((some false)))) ((some false)))) ((some false)))) ((some false)))) fun ad=>
(some ad)
 | x6::xs,h=>bnd (gEc x6.type_ f.vars) fun x7=>
(cnd (!x7) (
(some false)) (
gd (h.length+[x6.name].length≤4294967296) (
wO f xs (h++[x6.name]))))
def gB2(f:kX):Option (Bool):=
wO f f.params []
theorem gH6(a0:kX){r:Bool}(h:gB2 a0=some r):jI Tryz.prog 214 [.d (gEu a0)] [.b r]:=by
 obtain⟨am,an,ao,ak,⟨ah,ai,aj⟩,⟨aa,ab,ac,ad,⟨f,q,y⟩,ae,ag⟩⟩:=a0;unfold gB2 at h;refine SpI Tryz.func214 fun A _=>?_;refine goL ?_;refine gC1 ?_;refine goL ?_;refine noB ?_;refine yC 0 3 (fun z4=>?_);refine mG (fun(y3:Nat)(y1:LS)(v2:Nat)=>⟨[(1,.ptr 0 0),(3,.sl 1 v2),(4,.N y3)],[.box [.S am,.L 1 (gT an),.L 4 (kC ao),.L 4 (yN ak),.I ah,.S ai,.L 3 (gN aj),.I aa,.S ab,.S ac,.I ad,.I f,.S q,.L 3 (gN y),.L 9 (kQ ae),.L 11 (uZ ag)],.own 9 1 v2 (gT y1)],Tryz.f214.ntmps⟩) (fun y3 y1 v2=>wO (kX.mk am an ao ak (gB.mk ah ai aj) (gY.mk aa ab ac ad (gB.mk f q y) ae ag)) (ak.drop y3) y1=some r) (fun y3 y1 v2=>ak.length - y3) 0 [] 0 eJ h ?_;rintro y3 y1 v2 h;refine goL ?_;refine mR (fun c5=>?_) (fun c5=>?_)
 ·have al:=vR c5;obtain⟨x6,av,aw⟩:=drop_at al;rw [aw,wO.eq_2] at h;obtain⟨ar,⟨a6,a7,a8⟩⟩:=x6;refine noS ?_;refine kI (jA ?_);refine goL ?_;refine gDi (jR y3 (gY6 av)) ?_;refine goL ?_;obtain⟨x7,bb,h⟩:=gJ h;refine gDi (gI (gG6 _ _ bb)) ?_;refine goC h ?_ ?_<;>intro c8 h
  ·exact goR h
  ·refine goS ?_;refine jP (jR y3 (gY6 av)) ?_;refine wX ar ?_;obtain⟨g9,h⟩:=pU h;refine gDl g9 ?_;refine goL ?_;refine jP (kD y3 (by omega)) ?_;exact⟨(y3+1),(y1++[ar]),(v2+1),h,by omega,eJ⟩
 ·have al:=vS c5;rw [jK al,wO.eq_1] at h;refine goX ?_;refine jP (gI (uH am)) ?_;obtain⟨bc,hb10,h⟩:=gJ h;refine kH ⟨[(2,.B bc)],[.box [.S am,.L 1 (gT an),.L 4 (kC ao),.L 4 (yN ak),.I ah,.S ai,.L 3 (gN aj),.I aa,.S ab,.S ac,.I ad,.I f,.S q,.L 3 (gN y),.L 9 (kQ ae),.L 11 (uZ ag)],.own 9 1 v2 (gT y1)],Tryz.f214.ntmps⟩ ?_ ?_
  ·refine gqA 35 hb10 (fun bf hb10=>?_);obtain⟨bg,ax,hb10⟩:=gJ hb10;refine jP (gI (gAy _ _ ax)) ?_;refine gqA 40 hb10 (fun bh hb10=>?_);obtain⟨bi,ay,hb10⟩:=gJ hb10;refine jP (gI (gSt _ _ ay)) ?_;refine gqA 47 hb10 (fun bj hb10=>?_);obtain⟨bk,a3,hb10⟩:=gJ hb10;refine yT (gUa (gAy y1 5 a3)) ?_;refine gqA 51 hb10 (fun bl hb10=>?_);obtain⟨bm,a4,hb10⟩:=gJ hb10;refine jP (gI (gG6 _ _ a4)) ?_;refine gqA 58 hb10 (fun bn hb10=>?_);obtain⟨bo,a5,hb10⟩:=gJ hb10;refine yT (gUa (gQk (gY.mk aa ab ac ad (gB.mk f q y) ae ag) y1 a5)) ?_;cases hb10;exact eJ
  exact goR h
end Go.Proofs.YtfpdlnkkcnmebaaGreat
