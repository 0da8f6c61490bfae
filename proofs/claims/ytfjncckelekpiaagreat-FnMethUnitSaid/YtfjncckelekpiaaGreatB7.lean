import Derived.Test.YtfjncckelekpiaaGreatB8
set_option maxHeartbeats 4000000
set_option linter.unusedVariables false
set_option linter.unusedSimpArgs false
set_option linter.unusedSectionVars false
namespace Go.Proofs.YtfjncckelekpiaaGreat
open Go Go.Eng
attribute [local irreducible] V VO VQ VY Quiet QR gW pJ Rng vF uW uI
def qU(a0:gG)(x7:jF)(f:Bool→Option (gI × Int)):List gI→Bool→Option (gI × Int)
 | [],y=>(f y)
 | q::xs,y=>bnd (at? a0.packages q.package) fun aa=>
bnd (at? aa.instances q.at_) fun ab=>
bnd (cnd y (bnd (yP ab.head x7.head) fun ac=>
some (!ac)) (some false)) fun ad=>
qU a0 x7 f xs ad
def uD(f:gG)(a1:gU)(x1:List gI):List gI→Option (gI × Int)
 | []=>(some ((gI.mk 0 0),1))
 | q::xs=>bnd (at? f.packages q.package) fun x6=>
bnd (at? x6.instances q.at_) fun x7=>
qU f x7 (fun y9=>bnd (cnd y9 (cnd x7.default_ (bnd (gDz a1.type_) fun y=>
some (!y)) (some false)) (some false)) fun aa=>
cnd aa (some ((gI.mk 0 0),2)) (cnd y9 (some (q,0)) (
uD f a1 x1 xs ))) x1 true
def gBk(f:gG)(a1:gU):Option (gI × Int):=
bnd (yQ f a1) fun q=>
uD f a1 q q
theorem gS0(a0:gG)(a1:gU){r:gI × Int}(h:gBk a0 a1=some r):gW Tryz.prog 136 [.d (jX a0),.d (gCq a1)] [qQ r.1,.i .i64 r.2]:=by
 obtain⟨ah⟩:=a0;obtain⟨ai,⟨f,q,y⟩⟩:=a1;unfold gBk at h;refine SpI Tryz.func136 fun A _=>?_;refine goL ?_;obtain⟨x1,b0,h⟩:=gK h;refine gX (gD (gOr _ _ b0)) ?_;refine noB ?_;refine gB0 6 (fun z3=>?_);refine kZ (fun(y2:Nat)=>⟨[(2,.ptr 0 0),(3,.ptr 1 0),(4,.ptr 2 0),(6,.L 2 (mG x1)),(7,.N y2)],[bPr ah,bBd ai f q y,.box [.I 0,.I 0]],Tryz.f136.ntmps⟩) (fun y2=>uD (gG.mk ah) (gU.mk ai (gF.mk f q y)) x1 (x1.drop y2)  =some r) (fun y2=>x1.length - y2) 0 eJ h ?_;rintro y2 h;refine goL ?_;refine kN (fun c4=>?_) (fun c4=>?_)
 ·have aq:=qB c4;obtain⟨x5,a9,bo⟩:=drop_at aq;rw [bo,uD.eq_2] at h;obtain⟨bp,bq⟩:=x5;refine noS ?_;refine kC (gP ?_);refine sZ 1 ?_;refine goW ?_;refine kR (fun _=>gV y2 (vQ a9)) ?_;refine goW ?_;obtain⟨x6,ba,h⟩:=gK h;obtain⟨br,ba⟩:=yY ba;obtain⟨cd,ce,cf,cg,ch,ci⟩:=x6;refine kR (fun _=>kY br (mX ba)) ?_;refine goW ?_;refine kR (fun _=>gV y2 (vQ a9)) ?_;refine goW ?_;obtain⟨x7,bb,h⟩:=gK h;obtain⟨bt,bb⟩:=yY bb;obtain⟨aj,ak,⟨aa,ab,ac⟩,al,am,an,⟨ad,ae,ag⟩,ao⟩:=x7;refine kR (fun _=>kY bt (gFf bb)) ?_;refine goW ?_;refine jY ?_;refine goL ?_;refine noB ?_;refine gB0 6 (fun cm=>?_)
  refine gAg (fun(y8:Nat)(y9:Bool)=>⟨[(2,.ptr 0 0),(3,.ptr 1 0),(4,.ptr 2 0),(6,.L 2 (mG x1)),(7,.N y2),(8,.ptr 3 0),(9,.B y9),(10,.N y8)],[bPr ah,bBd ai f q y,.box [.I 0,.I 0],bIn aj ak aa ab ac al am an ad ae ag ao],Tryz.f136.ntmps⟩) (fun y8 y9=>qU (gG.mk ah) (jF.mk aj ak (gF.mk aa ab ac) al am an (gF.mk ad ae ag) ao) (fun y9=>bnd (cnd y9 (cnd (jF.mk aj ak (gF.mk aa ab ac) al am an (gF.mk ad ae ag) ao).default_ (bnd (gDz (gU.mk ai (gF.mk f q y)).type_) fun bu=>
some (!bu)) (some false)) (some false)) fun bc=>
cnd bc (some ((gI.mk 0 0),2)) (cnd y9 (some ((gI.mk bp bq),0)) (
uD (gG.mk ah) (gU.mk ai (gF.mk f q y)) x1 (x1.drop (y2+1)) ))) (x1.drop y8) y9=some r) (fun y8 y9=>x1.length - y8) 0 true eJ h ?_
  rintro y8 y9 h;refine goL ?_;refine kN (fun bd=>?_) (fun bd=>?_)
  ·have ar:=qB bd;obtain⟨b2,a8,be⟩:=drop_at ar;rw [be,qU.eq_2] at h;obtain⟨b3,b4⟩:=b2;refine noS ?_;refine kC (gP ?_);refine sZ 1 ?_;refine goW ?_;refine kR (fun _=>gV y8 (vQ a8)) ?_;refine goW ?_;obtain⟨b5,aw,h⟩:=gK h;obtain⟨bf,aw⟩:=yY aw;obtain⟨b6,b7,b8,b9,ca,cb⟩:=b5;refine kR (fun _=>kY bf (mX aw)) ?_;refine goW ?_;refine kR (fun _=>gV y8 (vQ a8)) ?_;refine goW ?_;obtain⟨cc,ax,h⟩:=gK h;obtain⟨bg,ax⟩:=yY ax;obtain⟨bh,bi,⟨ay,a2,a3⟩,bj,bk,bl,⟨a4,a5,a6⟩,bm⟩:=cc;refine kR (fun _=>kY bg (gFf ax)) ?_;refine goW ?_;refine jY ?_;refine goL ?_;obtain⟨bv,hb15,h⟩:=gK h;refine kG ⟨[(2,.ptr 0 0),(3,.ptr 1 0),(4,.ptr 2 0),(6,.L 2 (mG x1)),(7,.N y2),(8,.ptr 3 0),(10,.N y8),(9,.B bv)],[bPr ah,bBd ai f q y,.box [.I 0,.I 0],bIn aj ak aa ab ac al am an ad ae ag ao,bIn bh bi ay a2 a3 bj bk bl a4 a5 a6 bm],Tryz.f136.ntmps⟩ ?_ ?_
   ·refine gqA 62 hb15 (fun cn hb15=>?_);obtain⟨co,bw,hb15⟩:=gK hb15;refine gX (gD (gG7 _ _ bw)) ?_;cases hb15;exact eJ
   refine goL ?_;refine gX (jK y8 (by omega)) ?_;exact⟨(y8+1),bv,h,by omega,eJ⟩
  ·have ar:=qC bd;rw [gT ar,qU.eq_1] at h;refine goX ?_;obtain⟨bc,hb18,h⟩:=gK h;refine kG ⟨[(2,.ptr 0 0),(3,.ptr 1 0),(4,.ptr 2 0),(6,.L 2 (mG x1)),(7,.N y2),(9,.B y9),(80,.B bc)],[bPr ah,bBd ai f q y,.box [.I 0,.I 0],bIn aj ak aa ab ac al am an ad ae ag ao],Tryz.f136.ntmps⟩ ?_ ?_
   ·refine gqA 71 hb18 (fun cp hb18=>?_);refine gqA 75 hb18 (fun cq hb18=>?_);obtain⟨bu,bx,hb18⟩:=gK hb18;refine gX (gD (hDx _ bx)) ?_;cases hb18;exact eJ
   refine goC h ?_ ?_<;>intro cr h
   ·refine goL ?_;refine uX (jI TBd.h TZ.h rfl (by repeat constructor)) ?_;exact goR h
   ·refine goS ?_;refine kN (fun bn=>?_) (fun bn=>?_)
    ·replace h:=jU bn h;refine goL ?_;refine pX (gV y2 (vQ a9)) ?_;exact goR h
    ·replace h:=jV bn h;refine goS ?_;refine gX (jK y2 (by omega)) ?_;exact⟨(y2+1),h,by omega,eJ⟩
 ·have aq:=qC c4;rw [gT aq,uD.eq_1] at h;refine goX ?_;refine uX (jI TBd.h TZ.h rfl (by repeat constructor)) ?_;exact goR h
def gC4(f:gG)(a1:gI):Option (Bool):=
bnd (yZ f a1) fun q=>
(cnd (!q.2) (some false) (
lt_ (uC f q.1.trait) fun y=>
lt_ (cnd y.2.2 (cnd (y.2.1==a1.package) (true) ((gFc f q.1.head)==a1.package)) ((gFc f q.1.head)==a1.package)) fun b4=>
some b4))
theorem gN2(a0:gG)(a1:gI){r:Bool}(h:gC4 a0 a1=some r):gW Tryz.prog 107 [.d (jX a0),.d (qQ a1)] [.b r]:=by
 obtain⟨aa⟩:=a0;obtain⟨aq,ar⟩:=a1;unfold gC4 at h;refine SpI Tryz.func107 fun A _=>?_;refine goL ?_;obtain⟨⟨⟨ab,ag,⟨f,q,y⟩,ah,ai,aj,⟨ac,ad,ae⟩,ak⟩,a3⟩,av,h⟩:=gK h;refine gX (gD (gDx _ _ av)) ?_;refine kN (fun c2=>?_) (fun c2=>?_)
 ·replace h:=jU c2 h;exact goR h
 ·replace h:=jV c2 h;refine goS ?_;obtain⟨⟨⟨al,am,an,ao,ap⟩,a4,a5⟩,ax,h⟩:=pI h;have sx3:=gDt (gG.mk aa) ab;rw [ax] at sx3;refine pX (gD (sx3)) ?_;refine gCj ?_;obtain⟨b4,hb4,h⟩:=pI h;refine qN (P:=Tryz.prog) Mix.h ⟨[(4,.B b4)],[bPr aa,.box [.I aq,.I ar],bIn ab ag f q y ah ai aj ac ad ae ak,bTr al am an ao ap],Tryz.f107.ntmps⟩ (by kernel_rfl) ?_ ?_
  ·refine goL ?_;refine qE 27 (fun c5=>?_) (fun c5=>?_)
   ·replace hb4:=jU c5 hb4;refine goL ?_;refine qE 33 (fun c6=>?_) (fun c6=>?_)
    ·replace hb4:=jU c6 hb4;refine goL ?_;cases hb4;exact eJ
    ·replace hb4:=jV c6 hb4;refine goL ?_;refine wN (gD (gQb (gG.mk aa) (gF.mk f q y))) ?_;refine goL ?_;cases hb4;exact eJ
   ·replace hb4:=jV c5 hb4;refine goL ?_;refine wN (gD (gQb (gG.mk aa) (gF.mk f q y))) ?_;refine goL ?_;cases hb4;exact eJ
  exact goR h
def vJ(f:jF):List gU→Option (Bool)
 | []=>(some true)
 | q::xs=>bnd (gH2 q f.head) fun y=>
(cnd (!y) (some false) (
vJ f xs ))
def gCg(f:jF):Option (Bool):=
vJ f f.where_
theorem gNj(a0:jF){r:Bool}(h:gCg a0=some r):gW Tryz.prog 109 [.d (vY a0)] [.b r]:=by
 obtain⟨ah,ai,⟨q,y,aa⟩,ab,aj,ak,⟨ac,ad,ae⟩,al⟩:=a0;unfold gCg at h;refine SpI Tryz.func109 fun A _=>?_;refine goL ?_;refine noB ?_;refine pG 0 5 (fun z2=>?_);refine kZ (fun(y1:Nat)=>⟨[(1,.ptr 0 0),(3,.N y1)],[bIn ah ai q y aa ab aj ak ac ad ae al],Tryz.f109.ntmps⟩) (fun y1=>vJ (jF.mk ah ai (gF.mk q y aa) ab aj ak (gF.mk ac ad ae) al) (ab.drop y1)  =some r) (fun y1=>ab.length - y1) 0 eJ h ?_;rintro y1 h;refine goL ?_;refine kN (fun c3=>?_) (fun c3=>?_)
 ·have f:=qB c3;obtain⟨x4,au,am⟩:=drop_at f;rw [am,vJ.eq_2] at h;obtain⟨aw,⟨an,ao,ap⟩⟩:=x4;refine noS ?_;refine kC (gP ?_);refine goL ?_;refine wC (gV y1 (gF3 au)) ?_;refine goL ?_;obtain⟨x5,av,h⟩:=gK h;refine wC (gD (gSw _ _ av)) ?_;refine goC h ?_ ?_<;>intro c6 h
  ·exact goR h
  ·refine goS ?_;refine gX (jK y1 (by omega)) ?_;exact⟨(y1+1),h,by omega,eJ⟩
 ·have f:=qC c3;rw [gT f,vJ.eq_1] at h;refine goX ?_;refine jH ?_;cases h;exact mM
def gJ1(f:gF):Option (List gU):=
bnd (gTd 5000 f []) fun q=>
(some q)
theorem gT2(a0:gF){r:List gU}(h:gJ1 a0=some r):gW Tryz.prog 161 [.d (kT a0)] [.sl 4 (kM r)]:=by
 obtain⟨f,q,y⟩:=a0;unfold gJ1 at h;refine SpI Tryz.func161 fun A _=>?_;refine goL ?_;refine qO ?_;obtain⟨x1,ab,h⟩:=gK h;refine gLg [1] (hIg 5000 (gF.mk f q y) [] 0 ab) ?_;rintro _ _ ⟨v2,rfl,rfl⟩;show VO _ _ _ _ ⟨(_,.sl 1 v2)::_,[bTy f q y,.arr 110 4 v2 (kM x1)],_⟩ _;refine goL ?_;refine jS 1 rfl rfl ?_;refine jH ?_;cases h;exact mM
def gHa(f:mE):List kW→(List kW)→Option (mE)
 | [],q=>gd (([]:LS).length+f.supertraits.length≤4294967296) (some (mE.mk f.name ([]++f.supertraits) f.auto f.assoc q))
 | x6::xs,q=>bnd (hAc x6) fun y=>
gd (q.length+[y].length≤4294967296) (
gHa f xs (q++[y]))
def gS1(f:mE):Option (mE):=
gHa f f.signatures []
theorem hHr(a0:mE){r:mE}(h:gS1 a0=some r):gW Tryz.prog 111 [.d (gF2 a0)] [gF2 r]:=by
 obtain⟨an,ao,ap,aq,ab⟩:=a0;unfold gS1 at h;refine SpI Tryz.func111 fun A _=>?_;refine goL ?_;refine qO ?_;refine goL ?_;refine noB ?_;refine pG 0 4 (fun z4=>?_);refine kQ (fun(y3:Nat)(y1:List kW)(v2:Nat)=>⟨[(1,.ptr 0 0),(2,.ptr 1 0),(3,.sl 2 v2),(4,.N y3)],[bTr an ao ap aq ab,.box [.S [],.nilsl,.B false,.B false,.nilsl],.arr 78 16 v2 (gA6 y1)],Tryz.f111.ntmps⟩) (fun y3 y1 v2=>gHa (mE.mk an ao ap aq ab) (ab.drop y3) y1=some r) (fun y3 y1 v2=>ab.length - y3) 0 [] 0 eJ h ?_;rintro y3 y1 v2 h;refine goL ?_;refine kN (fun c5=>?_) (fun c5=>?_)
 ·have aa:=qB c5;obtain⟨x6,bh,a5⟩:=drop_at aa;rw [a5,gHa.eq_2] at h;obtain⟨bj,bk,⟨a6,a7,a8⟩,bl,bm,⟨a9,ba,bb,bc,⟨a2,a3,a4⟩,bd,be⟩⟩:=x6;refine noS ?_;refine kC (gP ?_);refine goL ?_;refine gX (gV y3 (vU bh)) ?_;obtain⟨⟨ar,au,⟨ac,ad,ae⟩,av,aw,⟨ag,ah,ai,aj,⟨f,q,y⟩,ak,al⟩⟩,bi,h⟩:=gK h;refine pX (gD (hQt _ bi)) ?_;refine uN (u:=(.st [.s ar,.sl 3 (jJ au),.st [.i .i64 ac,.s ad,.sl 3 (jJ ae)],.b av,.sl 1 (kD aw),.st [.i .i64 ag,.s ah,.s ai,.i .i64 aj,.st [.i .i64 f,.s q,.sl 3 (jJ y)],.sl 9 (vP ak),.sl 11 (gBv al)]])) ?_;obtain⟨g8,h⟩:=mI h;refine vR g8 ?_;refine goL ?_;refine gX (jK y3 (by omega)) ?_;exact⟨(y3+1),(y1++[(kW.mk ar au (gF.mk ac ad ae) av aw (gY.mk ag ah ai aj (gF.mk f q y) ak al))]),(v2+1),h,by omega,eJ⟩
 ·have aa:=qC c5;rw [gT aa,gHa.eq_1] at h;refine goX ?_;refine gFh ?_;refine goL ?_;obtain⟨g9,h⟩:=mI h;refine gDj g9 ?_;refine goL ?_;refine qW 3 rfl rfl ?_;refine jS 2 rfl rfl ?_;refine jH ?_;cases h;exact mM
def gNk(q:gG)(a1:gI):Option (jF × Bool):=
bnd (yZ q a1) fun f=>
bnd (gW6 f.1) fun y=>
(some (y,f.2))
theorem gZk(a0:gG)(a1:gI){r:jF × Bool}(h:gNk a0 a1=some r):gW Tryz.prog 113 [.d (jX a0),.d (qQ a1)] [vY r.1,.b r.2]:=by
 obtain⟨av⟩:=a0;obtain⟨aw,ax⟩:=a1;unfold gNk at h;refine SpI Tryz.func113 fun A _=>?_;refine goL ?_;obtain⟨⟨⟨ad,ae,⟨f,q,y⟩,ag,ah,ai,⟨aa,ab,ac⟩,aj⟩,ay⟩,ar,h⟩:=gK h;refine gX (gD (gDx _ _ ar)) ?_;obtain⟨⟨a2,a3,⟨ak,al,am⟩,a4,a5,a6,⟨an,ao,ap⟩,a7⟩,au,h⟩:=gK h;refine pX (gD (hNn _ au)) ?_;exact goR h
def gRs(f:gB)(a1:LB)(q:gF):Option (gB):=
bnd (gD3 a1 q) fun y=>
(cnd y (
lt_ (gAb f 2) fun x3=>
some x3) (
gd (([]:List gM).length+f.bindings.length≤4294967296) (
gd (([]++f.bindings).length+[(gM.mk a1 q)].length≤4294967296) (some (gB.mk f.next f.count f.node (([]++f.bindings)++[(gM.mk a1 q)]) f.equations f.obligations f.code f.at_)))))
theorem hBt(a0:gB)(a1:LB)(a2:gF){r:gB}(h:gRs a0 a1 a2=some r):gW Tryz.prog 181 [.d (jR a0),.S a1,.d (kT a2)] [jR r]:=by
 obtain⟨f,q,y,aa,ab,ac,ad,ae⟩:=a0;obtain⟨ag,ah,ai⟩:=a2;unfold gRs at h;refine SpI Tryz.func181 fun A _=>?_;refine goL ?_;obtain⟨x1,al,h⟩:=gK h;refine gX (gD (gH7 _ _ al)) ?_;refine kN (fun c2=>?_) (fun c2=>?_)
 ·replace h:=jU c2 h;refine goL ?_;obtain⟨⟨ao,ap,aq,ar,au,av,aw,ax⟩,an,h⟩:=pI h;have sx3:=gCn (gB.mk f q y aa ab ac ad ae) 2;rw [an] at sx3;refine pX (gD (sx3)) ?_;exact goR h
 ·replace h:=jV c2 h;refine noS ?_;refine sZ 1 ?_;refine goW ?_;refine gTb ?_;refine goW ?_;obtain⟨g4,h⟩:=mI h;refine uL g4 ?_;refine goW ?_;refine uK (us:=jM [(gM.mk a1 (gF.mk ag ah ai))]) ?_;obtain⟨g5,h⟩:=mI h;refine uL g5 ?_;refine goW ?_;refine jY ?_;refine goL ?_;refine jS 3 rfl rfl ?_;refine jH ?_;cases h;exact mM
def gMf(y:gG)(a1:gI)(a2:gF):Option (gF × Bool):=
bnd (yZ y a1) fun f=>
bnd (gLl f.1.head a2) fun q=>
lt_ (cnd (!f.2) (true) (cnd (!f.1.hasAssoc) (true) (!q.2))) fun b3=>
(cnd b3 (some ((gF.mk 0 [] []),false)) (
gd (bok q.1∧tok f.1.assoc) (lt_ (apT q.1 f.1.assoc) fun x8=>
some (x8,true))))
theorem gXt(a0:gG)(a1:gI)(a2:gF){r:gF × Bool}(h:gMf a0 a1 a2=some r):gW Tryz.prog 271 [.d (jX a0),.d (qQ a1),.d (kT a2)] [kT r.1,.b r.2]:=by
 obtain⟨al⟩:=a0;obtain⟨am,an⟩:=a1;obtain⟨ao,ap,aq⟩:=a2;unfold gMf at h;refine SpI Tryz.func271 fun A _=>?_;refine goL ?_;obtain⟨⟨⟨ad,ae,⟨aa,ab,ac⟩,ag,ah,ai,⟨f,q,y⟩,aj⟩,ay⟩,av,h⟩:=gK h;refine gX (gD (gDx _ _ av)) ?_;obtain⟨⟨ak,a3⟩,aw,h⟩:=gK h;refine gX (gD (gXn _ _ aw)) ?_;obtain⟨b3,hb3,h⟩:=pI h;refine kG ⟨[(6,.ptr 3 0),(8,.ptr 4 0),(10,.L 4 (jM ak)),(35,.B b3)],[bPr al,.box [.I am,.I an],bTy ao ap aq,.box [.I 0,.S [],.nilsl],bIn ad ae aa ab ac ag ah ai f q y aj],Tryz.f271.ntmps⟩ ?_ ?_
 ·refine gqO 27 hb3 (fun c4 hb3=>?_);exact gqZ 32 hb3
 refine goC h ?_ ?_<;>intro c6 h
 ·refine goL ?_;refine uX (jI TBd.h TZ.h rfl (by repeat constructor)) ?_;exact goR h
 ·refine goS ?_;obtain⟨g7,h⟩:=mI h;obtain⟨⟨a4,a5,a6⟩,ax,h⟩:=pI h;have sx8:=(gDi ak (gF.mk f q y) g7).p;rw [ax] at sx8;refine pX (gD (sx8)) ?_;exact goR h
def gJn:LS→Int→Int→Int→(List gM)→(List kK)→(List jZ)→Int→Int→(List gM)→(List gF)→Option (gB × List gM × List gF)
 | [],y1,y2,y3,y4,y5,y6,y7,y8,y9,q=>(some ((gB.mk y1 y2 y3 y4 y5 y6 y7 y8),y9,q))
 | y::xs,y1,y2,y3,y4,y5,y6,y7,y8,y9,q=>bnd (gCv (gB.mk y1 y2 y3 y4 y5 y6 y7 y8)) fun f=>
gd (y9.length+[(gM.mk y f.2)].length≤4294967296) (
gd (q.length+[f.2].length≤4294967296) (
gJn xs f.1.next f.1.count f.1.node f.1.bindings f.1.equations f.1.obligations f.1.code f.1.at_ (y9++[(gM.mk y f.2)]) (q++[f.2])))
def gOs(f:gB)(a1:LS):Option (gB × List gM × List gF):=
gJn a1 f.next f.count f.node f.bindings f.equations f.obligations f.code f.at_ [] []
theorem gWg(a0:gB)(a1:LS){r:gB × List gM × List gF}(h:gOs a0 a1=some r):gW Tryz.prog 267 [.d (jR a0),.L 1 (kD a1)] [jR r.1,.sl 4 (jM r.2.1),.sl 3 (jJ r.2.2)]:=by
 obtain⟨ar,au,av,aw,ax,ay,a2,a3⟩:=a0;unfold gOs at h;refine SpI Tryz.func267 fun A _=>?_;refine goL ?_;refine qO ?_;refine goL ?_;refine qO ?_;refine goL ?_;refine noB ?_;refine gB0 1 (fun bi=>?_);refine hQp (fun(aa:Nat)(y1:Int)(y2:Int)(y3:Int)(y4:List gM)(y5:List kK)(y6:List jZ)(y7:Int)(y8:Int)(y9:List gM)(ac:List gF)(ad:Nat)(ae:Nat)=>⟨[(1,.L 1 (kD a1)),(2,.ptr 0 0),(4,.ptr 1 0),(7,.sl 2 ad),(8,.sl 3 ae),(9,.N aa)],[bSt y1 y2 y3 y4 y5 y6 y7 y8,.box [.I 0,.I 0,.I 0,.nilsl,.nilsl,.nilsl,.I 0,.I 0],.arr 253 4 ad (jM y9),.arr 43 3 ae (jJ ac)],Tryz.f267.ntmps⟩) (fun aa y1 y2 y3 y4 y5 y6 y7 y8 y9 ac ad ae=>gJn (a1.drop aa) y1 y2 y3 y4 y5 y6 y7 y8 y9 ac=some r) (fun aa y1 y2 y3 y4 y5 y6 y7 y8 y9 ac ad ae=>a1.length - aa) 0 ar au av aw ax ay a2 a3 [] [] 0 0 eJ h ?_;rintro aa y1 y2 y3 y4 y5 y6 y7 y8 y9 ac ad ae h;refine goL ?_;refine kN (fun ao=>?_) (fun ao=>?_)
 ·have ab:=qB ao;obtain⟨bc,bd,ap⟩:=drop_at ab;rw [ap,gJn.eq_2] at h;refine noS ?_;refine kC (gP ?_);refine goL ?_;obtain⟨⟨⟨ag,ah,ai,aj,ak,al,am,an⟩,⟨f,q,y⟩⟩,be,h⟩:=gK h;refine pX (gD (gJ4 _ be)) ?_;refine gCj ?_;refine sZ 0 ?_;refine goW ?_;refine kR (fun _=>gV aa (gN4 bd)) ?_;refine goW ?_;refine uK (us:=jM [(gM.mk bc (gF.mk f q y))]) ?_;obtain⟨bg,h⟩:=mI h;refine uL bg ?_;refine goW ?_;refine jY ?_;refine goL ?_;refine uN (u:=(.st [.i .i64 f,.s q,.sl 3 (jJ y)])) ?_;obtain⟨bh,h⟩:=mI h;refine vR bh ?_;refine goL ?_;refine gX (jK aa (by omega)) ?_;exact⟨(aa+1),ag,ah,ai,aj,ak,al,am,an,(y9++[(gM.mk bc (gF.mk f q y))]),(ac++[(gF.mk f q y)]),(ad+1),(ae+1),h,by omega,eJ⟩
 ·have ab:=qC ao;rw [gT ab,gJn.eq_1] at h;refine goX ?_;refine jS 2 rfl rfl ?_;refine jS 3 rfl rfl ?_;refine jH ?_;cases h;exact mM
def gWh(f:jN):Option (jN):=
bnd (gH6 5000 [] f) fun q=>
(some q)
theorem hLm(a0:jN){r:jN}(h:gWh a0=some r):gW Tryz.prog 123 [.d (gBo a0)] [gBo r]:=by
 obtain⟨ag,ah,ai,aj,⟨f,q,y⟩,ak,al,am,an⟩:=a0;unfold gWh at h;refine SpI Tryz.func123 fun A _=>?_;refine goL ?_;obtain⟨⟨ao,ap,aq,ar,⟨aa,ab,ac⟩,au,av,aw,ax⟩,ae,h⟩:=gK h;refine pX (gD (gS4 _ _ _ ae)) ?_;exact goR h
def gRt(c:kP)(a1:Int):Option (gF × kP):=
bnd (gYa 5000 c [[97],[98]] a1) fun q=>
bnd (gAt q.2 8) fun f=>
(cnd (f.1==0) (
bnd (gDc f.2 [[97,100,100],[115,104,111,119]]) fun y=>
bnd (gPv y.1 q.1) fun x5=>
some (x5,y.2)) (cnd (f.1==1) (
bnd (gPv [97,100,100] q.1) fun x7=>
bnd (gGh [108,105,115,116] [x7]) fun x8=>
some (x8,f.2)) (cnd (f.1==2) (some ((gF.mk 4 [115,104,111,119] []),f.2)) (some (q.1,f.2)))))
theorem hPv(c:kP)(a1:Int){r:gF × kP}(h:gRt c a1=some r):Go.Eng.Spec Tryz.prog 58 [.ptr 0 0,.I a1] [bCu c.b c.i c.h] (fun sv Lo=>sv=.d (kT r.1)∧Lo=[bCu r.2.b r.2.i r.2.h]):=by
 obtain⟨av,aw,ax⟩:=c;unfold gRt at h;refine pK 1 Tryz.func58 rfl (by kernel_rfl) rfl rfl fun A _=>?_;refine goL ?_;refine gPb (us:=kD [[97],[98]]) ?_;refine goL ?_;refine qV 2 rfl rfl ?_;obtain⟨⟨⟨f,q,y⟩,⟨aa,ab,ac⟩⟩,ay,h⟩:=gK h;refine gCt 0 (hR3 5000 (kP.mk av aw ax) [[97],[98]] a1 ay) ?_;refine goL ?_;obtain⟨⟨a6,⟨an,ao,ap⟩⟩,a0,h⟩:=gK h;refine gCt 0 (gG0 (kP.mk aa ab ac) 8 a0) ?_;refine goL ?_;refine gP ?_;refine goC h ?_ ?_<;>intro c3 h
 ·refine sZ 0 ?_;refine goW ?_;refine uK (us:=kD [[97,100,100],[115,104,111,119]]) ?_;obtain⟨⟨a7,⟨aq,ar,au⟩⟩,a2,h⟩:=gK h;refine gSk (LH.c1 0 (gLw _ _ a2)) ?_;refine goW ?_;obtain⟨⟨ah,ai,aj⟩,a3,h⟩:=gK h;refine kR (fun _=>gD (hFs _ _ a3)) ?_;refine goW ?_;refine jY ?_;refine goL ?_;refine jH ?_;obtain rfl:=Option.some.inj h;exact gHr [.d (.st [.i .i64 ah,.s ai,.sl 3 (jJ aj)])] _ ⟨rfl,rfl⟩
 ·refine goC h ?_ ?_<;>intro c6 h
  ·refine goL ?_;obtain⟨⟨ad,ae,ag⟩,a4,h⟩:=gK h;refine pX (gD (hFs _ _ a4)) ?_;refine uN (u:=(.st [.i .i64 ad,.s ae,.sl 3 (jJ ag)])) ?_;refine qV 4 rfl rfl ?_;obtain⟨⟨ak,al,am⟩,a5,h⟩:=gK h;refine gC1 (hDc (gMa [108,105,115,116] [(gF.mk ad ae ag)] a5)) ?_;refine jH ?_;obtain rfl:=Option.some.inj h;exact gHr [.d (.st [.i .i64 ak,.s al,.sl 3 (jJ am)])] _ ⟨rfl,rfl⟩
  ·refine goC h ?_ ?_<;>intro c9 h
   ·refine goL ?_;refine gC1 (jI TBd.h TZ.h rfl (by repeat constructor)) ?_;refine jH ?_;obtain rfl:=Option.some.inj h;exact gHr [.d (.st [.i .i64 4,.s [115,104,111,119],.sl 3 []])] _ ⟨rfl,rfl⟩
   ·refine goS ?_;refine jH ?_;obtain rfl:=Option.some.inj h;exact gHr [.d (.st [.i .i64 f,.s q,.sl 3 (jJ y)])] _ ⟨rfl,rfl⟩
theorem gX9(p t:gF)(hp:tnd p≤40000)(ht:tok t):gLl p t=some (match mtT p t [] with | some l=>(l,true) | none=>([],false)):=by
 obtain⟨q,e1,f⟩:=(hDa 100000).2 [p] [t] [] (by simp only [gN5];omega) (fun b hb=>by simp at hb) (by simpa using ht) rfl (by simp [gN5];omega);have h0:((([p]:List gF).length:Int) !=(([t]:List gF).length:Int))=false:=by simp
 unfold gLl gNz;rw [h0,gZ,kX e1];simp only [hOm] at f;cases hm:mtT p t [] with
 | none=>
   rw [hm] at f;have y:q.1=false:=f;rw [y];rfl
 | some l=>
   rw [hm] at f;have y:q=(true,l):=f;subst y;rfl
def gT3(w:gG)(o:gI):Option jF:=bnd (at? w.packages o.package) fun p=>at? p.instances o.at_
theorem gS2{w:gG}{o:gI}{i:jF}(h:gT3 w o=some i):∃p,at? w.packages o.package=some p∧at? p.instances o.at_=some i:=gK h
def msp(a b:gF):Bool:=(mtT b a []).isSome && !(mtT a b []).isSome
theorem sMatches_eq'(p t:gF)(hp:tnd p≤40000)(ht:tok t):gKj p t=some (mtT p t []).isSome:=by
 unfold gKj;rw [kX (gX9 p t hp ht)];cases mtT p t []<;>rfl
theorem hTq{a b:gF}(ha:tok a)(hb:tok b)(sa:tnd a≤40000)(sb:tnd b≤40000):yP a b=some (msp a b):=by
 unfold yP zF msp;rw [kX (kX (sMatches_eq' b a sb ha))];cases (mtT b a []).isSome with
 | false=>rfl
 | true=>rw [kJ,kX (kX (sMatches_eq' a b sa hb))];rfl
def hd2(w:gG)(o:gI):gF:=match gT3 w o with | some i=>i.head | none=>⟨0,[],[]⟩
def hPw(w:gG)(g:gU)(o:gI):Bool:=match gT3 w o with | some i=>(i.trait==g.trait) && (mtT i.head g.type_ []).isSome | none=>false
structure WI (w:gG)(all:List gI):Prop where
 al:gAa w=some all
 len:all.length≤4000
 look:∀o∈all,∃i,gT3 w o=some i∧tok i.head∧tnd i.head≤40000
section
variable {w:gG}{all:List gI}(hw:WI w all)
include hw
theorem hFt(g:gU)(ht:tok g.type_):∀(l acc:List gI),(∀o∈l,o∈all)→acc.length+l.length≤4294967296→mU w g l acc=some (acc++l.filter (hPw w g))
 | [],acc,_,_=>by simp [mU]
 | o::l,acc,h,hl=>by
   simp only [List.length_cons] at hl;obtain⟨i,f,h2,q⟩:=hw.look o (h o (by simp));obtain⟨p,y,h5⟩:=gS2 f;have ih:∀acc',acc'.length≤acc.length+1→mU w g l acc'=some (acc'++l.filter (hPw w g)):=fun acc' ha=>hFt g ht l acc' (fun o ho=>h o (by simp [ho])) (by omega);have hs:hPw w g o=((i.trait==g.trait) && (mtT i.head g.type_ []).isSome):=by unfold hPw;rw [f]
   rw [mU,kX y,kX h5,List.filter_cons,hs];cases ht1:(i.trait==g.trait)with
   | false=>simp only [gZ,bnd,Bool.false_and];rw [ih acc (by omega)];rfl
   | true=>
     rw [kJ,kX (kX (sMatches_eq' i.head g.type_ q ht)),Bool.true_and];cases (mtT i.head g.type_ []).isSome with
     | false=>rw [gZ,ih acc (by omega)];rfl
     | true=>rw [kJ,wI (by simp;omega),ih _ (by simp)];simp
theorem hPx(g:gU)(ht:tok g.type_):yQ w g=some (all.filter (hPw w g)):=by
 unfold yQ
 have:=hw.len
 rw [kX hw.al,hFt hw g ht all [] (fun o ho=>ho) (by simp;omega)];rfl
def hTt(w:gG)(cs:List gI)(i:jF):Bool:=cs.all (fun o=> !msp (hd2 w o) i.head)
omit hw in
theorem gWi(i:jF)(k:Bool→Option (gI × Int)):∀(l:List gI),(∀o∈l,∃j,gT3 w o=some j)→qU w i k l false=k false
 | [],_=>rfl
 | o::l,h=>by
   obtain⟨j,f⟩:=h o (by simp);obtain⟨p,q,y⟩:=gS2 f;rw [qU,kX q,kX y,gZ];exact gWi i k l (fun o ho=>h o (by simp [ho]))
theorem hFu{i:jF}(hi:tok i.head)(si:tnd i.head≤40000)(k:Bool→Option (gI × Int)):∀(l:List gI),(∀o∈l,o∈all)→qU w i k l true=k (hTt w l i)
 | [],_=>rfl
 | o::l,h=>by
   obtain⟨j,f,y,h3⟩:=hw.look o (h o (by simp));obtain⟨p,h4,h5⟩:=gS2 f;have e:hd2 w o=j.head:=by unfold hd2;rw [f]
   have eb:hTt w (o::l) i=(!msp j.head i.head && hTt w l i):=by unfold hTt;rw [List.all_cons,e]
   rw [qU,kX h4,kX h5,kJ,hTq y hi h3 si,eb];simp only [bnd];cases msp j.head i.head with
   | true=>exact gWi i k l (fun o ho=>by obtain⟨j,q,_⟩:=hw.look o (h o (by simp [ho]));exact⟨j,q⟩)
   | false=>exact hFu hi si k l (fun o ho=>h o (by simp [ho]))
def hVh(w:gG)(cs:List gI)(gr:Bool):List gI→gI × Int
 | []=>(⟨0,0⟩,1)
 | o::l=>match gT3 w o with
   | some i=>cnd (hTt w cs i) (cnd (i.default_ && !gr) (⟨0,0⟩,2) (o,0)) (hVh w cs gr l)
   | none=>(⟨0,0⟩,1)
theorem hLp{g:gU}{gr:Bool}(hg:gDz g.type_=some gr)(cs:List gI)(hc:∀o∈cs,o∈all):∀(l:List gI),(∀o∈l,o∈all)→uD w g cs l=some (hVh w cs gr l)
 | [],_=>rfl
 | o::l,h=>by
   obtain⟨i,f,q,y⟩:=hw.look o (h o (by simp));obtain⟨p,h4,h5⟩:=gS2 f;have ih:=hLp hg cs hc l (fun o ho=>h o (by simp [ho]));rw [uD,kX h4,kX h5,hFu hw q y _ cs hc,hVh,f];simp only;cases hTt w cs i with
   | false=>simp only [gZ,bnd];exact ih
   | true=>
     simp only [kJ];cases i.default_ with
     | false=>rfl
     | true=>simp only [kJ];rw [hg];cases gr<;>rfl
def hVi(w:gG)(all:List gI)(gr:Bool)(g:gU):gI × Int:=hVh w (all.filter (hPw w g)) gr (all.filter (hPw w g))
theorem hTu{g:gU}(ht:tok g.type_){gr:Bool}(hg:gDz g.type_=some gr):gBk w g=some (hVi w all gr g):=by
 have hc:∀o∈all.filter (hPw w g),o∈all:=fun o ho=>(List.mem_filter.1 ho).1;unfold gBk;rw [kX (hPx hw g ht),hLp hw hg _ hc _ hc];rfl
omit hw in
theorem hFv{cs:List gI}{gr:Bool}{o:gI}:∀{l:List gI},hVh w cs gr l=(o,0)→o∈l
 | [],h=>by cases h
 | a::l,h=>by
   rw [hVh] at h;cases hl:gT3 w a with
   | none=>rw [hl] at h;cases h
   | some i=>
     rw [hl] at h;simp only at h;cases hb:hTt w cs i with
     | false=>rw [hb,gZ] at h;exact List.mem_cons_of_mem _ (hFv h)
     | true=>
       rw [hb,kJ] at h;cases hd:(i.default_ && !gr)with
       | true=>rw [hd] at h;cases h
       | false=>rw [hd] at h;cases h;exact List.mem_cons_self
omit hw in
theorem hTv{g:gU}{gr:Bool}{o:gI}(h:hVi w all gr g=(o,0)):o∈all∧∃i l,gT3 w o=some i∧i.trait=g.trait∧mtT i.head g.type_ []=some l:=by
 obtain⟨q,f⟩:=List.mem_filter.1 (hFv h);refine⟨q,?_⟩;unfold hPw at f;cases hl:gT3 w o with
 | none=>rw [hl] at f;cases f
 | some i=>
   rw [hl] at f;simp only [Bool.and_eq_true,beq_iff_eq] at f;cases hm:mtT i.head g.type_ [] with
   | none=>rw [hm] at f;cases f.2
   | some l=>exact⟨i,l,rfl,f.1,hm⟩
end
def wY(f:yT→Option (gH × yT)):Nat→LB→Int→Int→Int→Bool→(List gH)→Option (gH × yT)
 | 0,ac,ad,ae,ag,ab,aa=>none
 | ah+1,ac,ad,ae,ag,ab,aa=>(cnd (!ab) (
bnd (gSn (yT.mk ac ad ae ag ab)) fun q=>
bnd (cnd (decide (q.at_ < (q.s.length:Int))) (bnd (at? q.s q.at_) fun ai=>
some ((ai.toNat:Int)==41)) (some false)) fun aj=>
(cnd aj (some ((gH.mk [] aa),(yT.mk q.s (IntKind.i64.wrap (q.at_+1)) (IntKind.i64.wrap (q.deep - 1)) q.size q.bad))) (
bnd (f q) fun y=>
gd (aa.length+[y.1].length≤4294967296) (
wY f ah y.2.s y.2.at_ y.2.deep y.2.size y.2.bad (aa++[y.1]))))) (some ((gH.mk [] aa),(yT.mk ac ad ae ag ab))))
def gA4(f:yT→Option (gH × yT))(q:yT)(n0:Nat):Nat→Int→Option (gH × yT)
 | 0,y=>none
 | n6+1,y=>bnd (cnd (decide (y < (q.s.length:Int))) (bnd (at? q.s y) fun x9=>
some (gJ7 (x9.toNat:Int))) (some false)) fun b7=>
(cnd b7 (
gA4 f q n0 n6 (IntKind.i64.wrap (y+1))) (cnd (decide (y > q.at_)) (
gd (0≤q.at_∧q.at_≤y∧y≤(q.s.length:Int)) (some ((gH.mk ((q.s.drop (Int.toNat q.at_)).take (Int.toNat y - Int.toNat q.at_)) []),(yT.mk q.s y q.deep (IntKind.i64.wrap (q.size+1)) q.bad)))) (
bnd (bnd (at? q.s y) fun aa=>
cnd ((aa.toNat:Int) != 40) (some true) (some (q.deep==14))) fun ab=>
cnd ab (some ((gH.mk [] []),(yT.mk q.s y q.deep (IntKind.i64.wrap (q.size+1)) true))) (
wY f n0 q.s (IntKind.i64.wrap (y+1)) (IntKind.i64.wrap (q.deep+1)) (IntKind.i64.wrap (q.size+1)) q.bad []))))
def gUj(f:yT→Option (gH × yT))(c:yT)(y:Nat):Option (gH × yT):=
bnd (gSn c) fun q=>
lt_ (cnd (decide (q.at_≥(q.s.length:Int))) (true) (decide ((IntKind.i64.wrap (q.size+1)) > 900))) fun b2=>
(cnd b2 (some ((gH.mk [] []),(yT.mk q.s q.at_ q.deep (IntKind.i64.wrap (q.size+1)) true))) (
gA4 f q y y q.at_))
theorem hPy{f:yT→Option (gH × yT)}(ad:∀(x0:yT){r:gH × yT},f x0=some r→Go.Eng.Spec Tryz.prog 90 [.ptr 0 0] [bIp x0.s x0.at_ x0.deep x0.size x0.bad] (fun sv Lo=>sv=.d (qL r.1)∧Lo=[bIp r.2.s r.2.at_ r.2.deep r.2.size r.2.bad]))(c:yT){n0:Nat}{r:gH × yT}(h:gUj f c n0=some r):Go.Eng.Spec Tryz.prog 90 [.ptr 0 0] [bIp c.s c.at_ c.deep c.size c.bad] (fun sv Lo=>sv=.d (qL r.1)∧Lo=[bIp r.2.s r.2.at_ r.2.deep r.2.size r.2.bad]):=by
 obtain⟨bi,bj,bk,bl,bm⟩:=c;unfold gUj at h;refine pK 1 Tryz.func90 rfl (by kernel_rfl) rfl rfl fun A _=>?_;refine goL ?_;obtain⟨⟨q,y,aa,ab,ac⟩,bn,h⟩:=gK h;refine gCt 0 (gYv (yT.mk bi bj bk bl bm) bn) ?_;refine goL ?_;refine pX (pR) ?_;refine gCj ?_;obtain⟨b2,hb2,h⟩:=pI h;refine qN (P:=Tryz.prog) Mix.h ⟨[(0,.ptr 0 0),(2,.ptr 1 0),(31,.B b2)],[.box [.S q,.I y,.I aa,.d (.i .i64 (IntKind.i64.wrap (ab+1))),.B ac],.box [.S [],.nilsl]],Tryz.f90.ntmps⟩ (by kernel_rfl) ?_ ?_
 ·refine goL ?_;refine qE 25 (fun c3=>?_) (fun c3=>?_)
  ·replace hb2:=jU c3 hb2;refine goL ?_;cases hb2;exact eJ
  ·replace hb2:=jV c3 hb2;refine goL ?_;cases hb2;exact eJ
 refine goC h ?_ ?_<;>intro c4 h
 ·refine goL ?_;refine gC1 (jI TBd.h TZ.h rfl (by repeat constructor)) ?_;refine jH ?_;obtain rfl:=Option.some.inj h;exact gHr [.d (.st [.s [],.sl 2 []])] _ ⟨rfl,rfl⟩
 ·refine goS ?_;refine kC (gP ?_);show V _ _ _ _ _;refine gAg (fun(n6:Nat)(y5:Int)=>⟨[(0,.ptr 0 0),(2,.ptr 1 0),(3,.I y)],[.box [.S q,.I y5,.I aa,.d (.i .i64 (IntKind.i64.wrap (ab+1))),.B ac],.box [.S [],.nilsl]],Tryz.f90.ntmps⟩) (fun n6 y5=>gA4 f (yT.mk q y aa ab ac) n0 n6 y5=some r) (fun n6 y5=>n6) n0 y eJ h ?_;rintro n6 y5 h;rcases n6 with _ | n6
  ·cases h
  rw [gA4.eq_2] at h;refine gCj ?_;obtain⟨b7,hb7,h⟩:=gK h;refine qN (P:=Tryz.prog) Mix.h ⟨[(0,.ptr 0 0),(2,.ptr 1 0),(3,.I y),(61,.B b7)],[.box [.S q,.I y5,.I aa,.d (.i .i64 (IntKind.i64.wrap (ab+1))),.B ac],.box [.S [],.nilsl]],Tryz.f90.ntmps⟩ (by kernel_rfl) ?_ ?_
  ·refine goL ?_;refine qE 50 (fun c8=>?_) (fun c8=>?_)
   ·replace hb7:=jU c8 hb7;refine goL ?_;obtain⟨x9,a7,hb7⟩:=gK hb7;obtain⟨be,a7⟩:=yY a7;refine wN (gO3 be a7) ?_;refine wN (gD (hFc (x9.toNat:Int))) ?_;refine goL ?_;cases hb7;exact eJ
   ·replace hb7:=jV c8 hb7;refine goL ?_;cases hb7;exact eJ
  refine goC h ?_ ?_<;>intro bz h
  ·refine noS ?_;refine gP ?_;refine goL ?_;refine gX (pR) ?_;exact⟨n6,(IntKind.i64.wrap (y5+1)),h,Nat.lt_succ_self _,eJ⟩
  ·refine goX ?_;refine kN (fun a8=>?_) (fun a8=>?_)
   ·replace h:=jU a8 h;refine sZ 0 ?_;refine goW ?_;obtain⟨bq,h⟩:=mI h;refine kR (fun _=>hSh bq) ?_;refine goW ?_;refine jY ?_;refine goL ?_;refine jH ?_;obtain rfl:=Option.some.inj h;exact gHr [.d (.st [.s ((q.drop (Int.toNat y)).take (Int.toNat y5 - Int.toNat y)),.sl 2 []])] _ ⟨rfl,rfl⟩
   ·replace h:=jV a8 h;refine noS ?_;refine gCj ?_;obtain⟨br,hb13,h⟩:=gK h;refine qN (P:=Tryz.prog) Mix.h ⟨[(0,.ptr 0 0),(2,.ptr 1 0),(103,.B br)],[.box [.S q,.I y5,.I aa,.d (.i .i64 (IntKind.i64.wrap (ab+1))),.B ac],.box [.S [],.nilsl]],Tryz.f90.ntmps⟩ (by kernel_rfl) ?_ ?_
    ·refine goL ?_;obtain⟨b0,ap,hb13⟩:=gK hb13;obtain⟨a9,ap⟩:=yY ap;refine wC (gO3 a9 ap) ?_;refine goL ?_;refine qE 97 (fun ba=>?_) (fun ba=>?_)
     ·replace hb13:=jU ba hb13;refine goL ?_;cases hb13;exact eJ
     ·replace hb13:=jV ba hb13;refine goL ?_;cases hb13;exact eJ
    refine goC h ?_ ?_<;>intro b1 h
    ·refine goL ?_;refine gC1 (jI TBd.h TZ.h rfl (by repeat constructor)) ?_;refine jH ?_;obtain rfl:=Option.some.inj h;exact gHr [.d (.st [.s [],.sl 2 []])] _ ⟨rfl,rfl⟩
    ·refine goS ?_;refine gX (pR) ?_;refine gX (pR) ?_;refine gC1 (jI TBd.h TZ.h rfl (by repeat constructor)) ?_;refine kC (gP ?_);show V _ _ _ _ _;refine uA 148 2 2 1 rfl rfl (by repeat constructor) (by repeat constructor) (by repeat constructor) (by repeat constructor) ?_;show V _ _ _ _ _;refine hUb (fun(ag:Nat)(ak:LB)(al:Int)(am:Int)(an:Int)(ao:Bool)(ae:List gH)(ah:Nat)=>⟨[(0,.ptr 0 0),(2,.ptr 1 0),(4,.ptr 2 0)],[bIp ak al am an ao,.box [.S [],.nilsl],.box [.S [],.sl 3 ah],.arr 148 2 ah (kE ae)],Tryz.f90.ntmps⟩) (fun ag ak al am an ao ae ah=>wY f ag ak al am an ao ae=some r) (fun ag ak al am an ao ae ah=>ag) n0 q (IntKind.i64.wrap (y5+1)) (IntKind.i64.wrap (aa+1)) (IntKind.i64.wrap (ab+1)) ac [] 0 eJ h ?_;rintro ag ak al am an ao ae ah h;rcases ag with _ | ag
     ·cases h
     rw [wY.eq_2] at h;refine goC h ?_ ?_<;>intro b3 h
     ·refine noS ?_;refine gP ?_;refine goL ?_;obtain⟨⟨aq,ar,au,av,aw⟩,bf,h⟩:=gK h;refine gCt 0 (gYv (yT.mk ak al am an ao) bf) ?_;refine gCj ?_;obtain⟨bt,hb27,h⟩:=gK h;refine qN (P:=Tryz.prog) Mix.h ⟨[(0,.ptr 0 0),(2,.ptr 1 0),(4,.ptr 2 0),(153,.B bt)],[bIp aq ar au av aw,.box [.S [],.nilsl],.box [.S [],.sl 3 ah],.arr 148 2 ah (kE ae)],Tryz.f90.ntmps⟩ (by kernel_rfl) ?_ ?_
      ·refine goL ?_;refine qE 142 (fun bb=>?_) (fun bb=>?_)
       ·replace hb27:=jU bb hb27;refine goL ?_;obtain⟨b4,ax,hb27⟩:=gK hb27;obtain⟨bc,ax⟩:=yY ax;refine wN (gO3 bc ax) ?_;refine goL ?_;cases hb27;exact eJ
       ·replace hb27:=jV bb hb27;refine goL ?_;cases hb27;exact eJ
      refine goC h ?_ ?_<;>intro b5 h
      ·refine goL ?_;refine gX (pR) ?_;refine gX (pR) ?_;refine jS 3 rfl rfl ?_;refine jH ?_;obtain rfl:=Option.some.inj h;exact hW8 [.d (.st [.s [],.sl 2 (kE ae)])] [.box [.S aq,.d (.i .i64 (IntKind.i64.wrap (ar+1))),.d (.i .i64 (IntKind.i64.wrap (au - 1))),.I av,.B aw]] ⟨rfl,rfl⟩
      ·refine noS ?_;refine dZ 0 ?_;refine goW ?_;obtain⟨⟨⟨ai,aj⟩,⟨ay,a0,a2,a3,a4⟩⟩,bg,h⟩:=gK h;refine gSk (LH.c1 0 (ad _ bg)) ?_;refine uK (us:=kE [(gH.mk ai aj)]) ?_;obtain⟨bu,h⟩:=mI h;refine uL bu ?_;refine goW ?_;refine jY ?_;refine goL ?_;exact⟨ag,ay,a0,a2,a3,a4,(ae++[(gH.mk ai aj)]),(ah+1),h,Nat.lt_succ_self _,eJ⟩
     ·refine goX ?_;refine jS 3 rfl rfl ?_;refine jH ?_;obtain rfl:=Option.some.inj h;exact hW8 [.d (.st [.s [],.sl 2 (kE ae)])] [bIp ak al am an ao] ⟨rfl,rfl⟩
def gDd:Nat→yT→Option (gH × yT)
 | 0,_=>none
 | n+1,f=>gUj (gDd n) f n
theorem hPz:∀(n:Nat)(f:yT){r:gH × yT},gDd n f=some r→Go.Eng.Spec Tryz.prog 90 [.ptr 0 0] [bIp f.s f.at_ f.deep f.size f.bad] (fun sv Lo=>sv=.d (qL r.1)∧Lo=[bIp r.2.s r.2.at_ r.2.deep r.2.size r.2.bad]):=by
 intro n
 induction n with
 | zero=>intro f r h;cases h
 | succ n ih=>intro f r h;exact hPy ih f h
def gBl(f:LB):LB→Bool
 | []=>(gBa (f.length:Int) 1 12)
 | q::xs=>(cnd (!(gJ7 (q.toNat:Int))) (
false) (
gBl f xs ))
def gIo(f:LB):Bool:=
gBl f f
theorem gXu(y:LB):gW Tryz.prog 193 [.S y] [.b (gIo y)]:=by
 obtain⟨r,h⟩:∃r,gIo y=r:=⟨_,rfl⟩
 rw [h];unfold gIo at h;refine SpI Tryz.func193 fun A _=>?_;refine goL ?_;refine noB ?_;refine hQf 0 (fun z2=>?_);refine kZ (fun(q:Nat)=>⟨[(0,.S y),(3,.N q)],[],Tryz.f193.ntmps⟩) (fun q=>gBl y (y.drop q)  =r) (fun q=>y.length - q) 0 eJ h ?_;rintro q h;refine goL ?_;refine kN (fun c3=>?_) (fun c3=>?_)
 ·have f:=hWo c3;obtain⟨x4,ac,aa⟩:=drop_at f;rw [aa,gBl.eq_2] at h;refine noS ?_;refine kC (gP ?_);refine goL ?_;refine pX (gLb q ac) ?_;refine gX (gD (hFc (x4.toNat:Int))) ?_;refine kN (fun c5=>?_) (fun c5=>?_)
  ·replace h:=jU c5 h;refine goL ?_;refine jH ?_;subst h;exact mM
  ·replace h:=jV c5 h;refine goS ?_;refine gX (jK q (by omega)) ?_;exact⟨(q+1),h,by omega,eJ⟩
 ·have f:=hWp c3;rw [gT f,gBl.eq_1] at h;refine goX ?_;refine gX (gD (gIv (y.length:Int) 1 12)) ?_;refine jH ?_;subst h;exact mM
def gCo(f:gH→Option (Int)):List gH→Int→Option (Int)
 | [],q=>(some (IntKind.i64.wrap (q+1)))
 | y::xs,q=>bnd (f y) fun x7=>
gCo f xs (gQl q x7)
def gNl(f:gH→Option (Int))(q:gH):Option (Int):=
(cnd (!(q.atom==[])) (some 0) (
gCo f q.list 0))
theorem gZl{f:gH→Option (Int)}(q:∀(x0:gH){r:Int},f x0=some r→gW Tryz.prog 143 [.d (qL x0)] [.i .i64 r])(a0:gH){r:Int}(h:gNl f a0=some r):gW Tryz.prog 143 [.d (qL a0)] [.i .i64 r]:=by
 obtain⟨ad,aa⟩:=a0;unfold gNl at h;refine SpI Tryz.func143 fun A _=>?_;refine goC h ?_ ?_<;>intro c1 h
 ·exact goR h
 ·refine goS ?_;refine noB ?_;refine pG 0 1 (fun z4=>?_);refine gAg (fun(y3:Nat)(y2:Int)=>⟨[(1,.ptr 0 0),(3,.I y2),(4,.N y3)],[bSx ad aa],Tryz.f143.ntmps⟩) (fun y3 y2=>gCo f (aa.drop y3) y2=some r) (fun y3 y2=>aa.length - y3) 0 0 eJ h ?_;rintro y3 y2 h;refine goL ?_;refine kN (fun c5=>?_) (fun c5=>?_)
  ·have y:=qB c5;obtain⟨x6,ai,ae⟩:=drop_at y;rw [ae,gCo.eq_2] at h;obtain⟨al,am⟩:=x6;refine noS ?_;refine kC (gP ?_);refine goL ?_;refine gX (gV y3 (vW ai)) ?_;obtain⟨x7,aj,h⟩:=gK h;refine pX (gD (q _ aj)) ?_;refine gX (gD (hJc y2 x7)) ?_;refine gX (jK y3 (by omega)) ?_;exact⟨(y3+1),(gQl y2 x7),h,by omega,eJ⟩
  ·have y:=qC c5;rw [gT y,gCo.eq_1] at h;refine goX ?_;refine pX (pR) ?_;exact goR h
def gNm:Nat→gH→Option (Int)
 | 0,_=>none
 | n+1,f=>gNl (gNm n) f
theorem gZm:∀(n:Nat)(f:gH){r:Int},gNm n f=some r→gW Tryz.prog 143 [.d (qL f)] [.i .i64 r]:=by
 intro n
 induction n with
 | zero=>intro f r h;cases h
 | succ n ih=>intro f r h;exact gZl ih f h
def gEr(f:gH):Option LS:=
bnd (gOb f.list) fun q=>
(some q.1)
theorem gH4(f:gH){r:LS}(h:gEr f=some r):gW Tryz.prog 195 [.d (qL f)] [.sl 1 (kD r)]:=by
 obtain⟨y,aa⟩:=f;unfold gEr at h;refine SpI Tryz.func195 fun A _=>?_;refine goL ?_;obtain⟨⟨ab,ac⟩,q,h⟩:=gK h;refine pX (gD (gVh _ q)) ?_;exact goR h
def gMu(f:gH)(a1:Int):Option (List gH):=
gd (0≤(wL a1 (f.list.length:Int))∧(wL a1 (f.list.length:Int))≤(f.list.length:Int)) (some (f.list.drop (Int.toNat (wL a1 (f.list.length:Int)))))
theorem gRu(q:gH)(a1:Int){r:List gH}(h:gMu q a1=some r):gW Tryz.prog 196 [.d (qL q),.I a1] [.sl 2 (kE r)]:=by
 obtain⟨y,f⟩:=q;unfold gMu at h;refine SpI Tryz.func196 fun A _=>?_;refine goL ?_;refine wC (gD (gM3 a1 (f.length:Int))) ?_;obtain⟨g1,h⟩:=mI h;refine wC (gQi g1) ?_;exact goR h
def gOt(f:gH→Option (gF))(y:gH)(x8:gH):List gH→(List gF)→Option (gF)
 | [],q=>bnd (cnd (x8.atom==[97,115,115,111,99]) (cnd ((q.length:Int)==2) (bnd (at? y.list 1) fun ac=>
some (!(ac.atom==[]))) (some false)) (some false)) fun ad=>
(cnd ad (
bnd (at? y.list 1) fun ae=>
gd (0≤(1:Int)∧1≤(q.length:Int)) (some (gF.mk 3 ae.atom (q.drop (Int.toNat 1))))) (
bnd (cnd (x8.atom==[100,121,110]) (cnd ((q.length:Int)==1) (bnd (at? y.list 1) fun ag=>
some (!(ag.atom==[]))) (some false)) (some false)) fun ah=>
(cnd ah (
bnd (at? y.list 1) fun ai=>
some (gF.mk 4 ai.atom [])) (some (gF.mk 2 x8.atom q)))))
 | aj::xs,q=>bnd (f aj) fun aa=>
gd (q.length+[aa].length≤4294967296) (
gOt f y x8 xs (q++[aa]))
def hLq(f:gH→Option (gF))(q:gH):Option (gF):=
(cnd (!(q.atom==[])) (
bnd (at? q.atom 0) fun y=>
(cnd ((y.toNat:Int)==39) (
gd (0≤(1:Int)∧1≤(q.atom.length:Int)) (
lt_ (gM4 (q.atom.drop (Int.toNat 1))) fun x5=>
some x5)) (
bnd (gGh q.atom []) fun x6=>
some x6))) (cnd (decide ((q.list.length:Int) < 2)) (some (gF.mk 0 [] [])) (
bnd (at? q.list 0) fun x8=>
gOt f q x8 (q.list.drop 1) [])))
theorem hV4{f:gH→Option (gF)}(ae:∀(x0:gH){r:gF},f x0=some r→gW Tryz.prog 198 [.d (qL x0)] [kT r])(a0:gH){r:gF}(h:hLq f a0=some r):gW Tryz.prog 198 [.d (qL a0)] [kT r]:=by
 obtain⟨ac,y⟩:=a0;unfold hLq at h;refine SpI Tryz.func198 fun A _=>?_;refine goC h ?_ ?_<;>intro c1 h
 ·refine goL ?_;obtain⟨x2,ao,h⟩:=gK h;obtain⟨ad,ao⟩:=yY ao;refine gX (gO3 ad ao) ?_;refine kN (fun c3=>?_) (fun c3=>?_)
  ·replace h:=jU c3 h;refine goL ?_;obtain⟨g4,h⟩:=mI h;refine pX (hSi g4) ?_;obtain⟨⟨b0,b1,b2⟩,bb,h⟩:=pI h;have sx5:=gVi (ac.drop (Int.toNat 1));rw [bb] at sx5;refine pX (gD (sx5)) ?_;exact goR h
  ·replace h:=jV c3 h;refine goS ?_;obtain⟨⟨b3,b4,b5⟩,bc,h⟩:=gK h;refine pX (gD (gMa _ _ bc)) ?_;exact goR h
 ·refine goS ?_;refine kN (fun c7=>?_) (fun c7=>?_)
  ·replace h:=jU c7 h;refine goL ?_;refine uX (jI TBd.h TZ.h rfl (by repeat constructor)) ?_;exact goR h
  ·replace h:=jV c7 h;refine goS ?_;obtain⟨x8,ap,h⟩:=gK h;obtain⟨a5,ap⟩:=yY ap;obtain⟨ag,a6⟩:=x8;refine gX (kY a5 (vW ap)) ?_;refine qO ?_;refine goL ?_;refine noB ?_;refine gB0 21 (fun b8=>?_);refine kQ (fun(aa:Nat)(y9:List gF)(q:Nat)=>⟨[(1,.ptr 0 0),(2,.ptr 1 0),(3,.S ag),(4,.sl 2 q),(5,.N aa)],[bSx ac y,.box [.I 0,.S [],.nilsl],.arr 43 3 q (jJ y9)],Tryz.f198.ntmps⟩) (fun aa y9 q=>gOt f (gH.mk ac y) (gH.mk ag a6) (y.drop aa) y9=some r) (fun aa y9 q=>y.length - aa) 1 [] 0 eJ h ?_;rintro aa y9 q h;refine goL ?_;refine kN (fun aq=>?_) (fun aq=>?_)
   ·have ab:=qB aq;obtain⟨be,a7,ar⟩:=drop_at ab;rw [ar,gOt.eq_2] at h;obtain⟨bf,bg⟩:=be;refine noS ?_;refine kC (gP ?_);refine goL ?_;refine gX (gV aa (vW a7)) ?_;obtain⟨⟨ah,ai,aj⟩,a8,h⟩:=gK h;refine pX (gD (ae _ a8)) ?_;refine uN (u:=(.st [.i .i64 ah,.s ai,.sl 3 (jJ aj)])) ?_;obtain⟨bh,h⟩:=mI h;refine vR bh ?_;refine goL ?_;refine gX (jK aa (by omega)) ?_;exact⟨(aa+1),(y9++[(gF.mk ah ai aj)]),(q+1),h,by omega,eJ⟩
   ·have ab:=qC aq;rw [gT ab,gOt.eq_1] at h;refine noX ?_;refine kC (gP ?_);refine goL ?_;obtain⟨bi,hb17,h⟩:=gK h;refine kG ⟨[(1,.ptr 0 0),(2,.ptr 1 0),(3,.S ag),(4,.sl 2 q),(47,.B bi)],[bSx ac y,.box [.I 0,.S [],.nilsl],.arr 43 3 q (jJ y9)],Tryz.f198.ntmps⟩ ?_ ?_
    ·refine uJ 50 (fun au=>?_) (fun au=>?_) (by first | rfl | (simp only [jG,gQ];rfl))
     ·replace hb17:=jU au hb17;refine goL ?_;refine uJ 55 (fun av=>?_) (fun av=>?_) (by first | rfl | (simp only [jG,gQ];rfl))
      ·replace hb17:=jU av hb17;refine goL ?_;refine gRx ?_;obtain⟨bj,ad,hb17⟩:=gK hb17;obtain⟨aw,ad⟩:=yY ad;obtain⟨bk,bl⟩:=bj;refine gX (kY aw (vW ad)) ?_;cases hb17;exact⟨rfl,⟨⟨rfl,rfl⟩,⟨rfl,rfl⟩,⟨rfl,rfl⟩,⟨rfl,rfl⟩,⟨by first | rfl | (simp only [jG,gQ];rfl),rfl⟩,trivial⟩,⟨_,rfl⟩,rfl⟩
      ·replace hb17:=jV av hb17;refine goL ?_;cases hb17;exact⟨rfl,⟨⟨rfl,rfl⟩,⟨rfl,rfl⟩,⟨rfl,rfl⟩,⟨rfl,rfl⟩,⟨by first | rfl | (simp only [jG,gQ];rfl),rfl⟩,trivial⟩,⟨_,rfl⟩,rfl⟩
     ·replace hb17:=jV au hb17;refine goL ?_;cases hb17;exact⟨rfl,⟨⟨rfl,rfl⟩,⟨rfl,rfl⟩,⟨rfl,rfl⟩,⟨rfl,rfl⟩,⟨by first | rfl | (simp only [jG,gQ];rfl),rfl⟩,trivial⟩,⟨_,rfl⟩,rfl⟩
    refine goC h ?_ ?_<;>intro b9 h
    ·refine jS 2 rfl rfl ?_;refine hZx ?_;refine sZ 0 ?_;refine goW ?_;obtain⟨bm,ak,h⟩:=gK h;obtain⟨ax,ak⟩:=yY ak;obtain⟨bn,bo⟩:=bm;refine kR (fun _=>kY ax (vW ak)) ?_;refine goW ?_;obtain⟨bp,h⟩:=mI h;refine kR (fun _=>gQi bp) ?_;refine goW ?_;refine jY ?_;exact goR h
    ·refine goL ?_;obtain⟨bq,hb24,h⟩:=gK h;refine kG ⟨[(1,.ptr 0 0),(2,.ptr 1 0),(3,.S ag),(4,.sl 2 q),(71,.B bq)],[bSx ac y,.box [.I 0,.S [],.nilsl],.arr 43 3 q (jJ y9)],Tryz.f198.ntmps⟩ ?_ ?_
     ·refine uJ 74 (fun ay=>?_) (fun ay=>?_) (by first | rfl | (simp only [jG,gQ];rfl))
      ·replace hb24:=jU ay hb24;refine goL ?_;refine uJ 79 (fun a2=>?_) (fun a2=>?_) (by first | rfl | (simp only [jG,gQ];rfl))
       ·replace hb24:=jU a2 hb24;refine goL ?_;refine gRx ?_;obtain⟨br,al,hb24⟩:=gK hb24;obtain⟨a3,al⟩:=yY al;obtain⟨bt,bu⟩:=br;refine gX (kY a3 (vW al)) ?_;cases hb24;exact⟨rfl,⟨⟨rfl,rfl⟩,⟨rfl,rfl⟩,⟨rfl,rfl⟩,⟨rfl,rfl⟩,⟨by first | rfl | (simp only [jG,gQ];rfl),rfl⟩,trivial⟩,⟨_,rfl⟩,rfl⟩
       ·replace hb24:=jV a2 hb24;refine goL ?_;cases hb24;exact⟨rfl,⟨⟨rfl,rfl⟩,⟨rfl,rfl⟩,⟨rfl,rfl⟩,⟨rfl,rfl⟩,⟨by first | rfl | (simp only [jG,gQ];rfl),rfl⟩,trivial⟩,⟨_,rfl⟩,rfl⟩
      ·replace hb24:=jV ay hb24;refine goL ?_;cases hb24;exact⟨rfl,⟨⟨rfl,rfl⟩,⟨rfl,rfl⟩,⟨rfl,rfl⟩,⟨rfl,rfl⟩,⟨by first | rfl | (simp only [jG,gQ];rfl),rfl⟩,trivial⟩,⟨_,rfl⟩,rfl⟩
     refine goC h ?_ ?_<;>intro ca h
     ·refine goL ?_;obtain⟨bv,am,h⟩:=gK h;obtain⟨a4,am⟩:=yY am;obtain⟨bw,bx⟩:=bv;refine gX (kY a4 (vW am)) ?_;refine uX (jI TBd.h TZ.h rfl (by repeat constructor)) ?_;exact goR h
     ·refine goS ?_;refine gC1 (jI TBd.h TZ.h rfl (by repeat constructor)) ?_;refine jS 2 rfl rfl ?_;refine jH ?_;cases h;exact mM
def gQc:Nat→gH→Option (gF)
 | 0,_=>none
 | n+1,f=>hLq (gQc n) f
theorem gTn:∀(n:Nat)(f:gH){r:gF},gQc n f=some r→gW Tryz.prog 198 [.d (qL f)] [kT r]:=by
 intro n
 induction n with
 | zero=>intro f r h;cases h
 | succ n ih=>intro f r h;exact hV4 ih f h
def gQx(q:LB):Option (Int × Bool):=
bnd (gYy q 12) fun f=>
(some (f.1,f.2))
theorem hDz(q:LB){r:Int × Bool}(h:gQx q=some r):gW Tryz.prog 245 [.S q] [.i .i64 r.1,.b r.2]:=by
 unfold gQx at h;refine SpI Tryz.func245 fun A _=>?_;refine goL ?_;obtain⟨⟨y,aa⟩,f,h⟩:=gK h;refine pX (gD (hO6 _ _ f)) ?_;exact goR h
def gBm:LB→Nat→Bool
 | [],q=>true
 | f::xs,q=>lt_ (cnd (decide ((f.toNat:Int)≥97)) (decide ((f.toNat:Int)≤122)) (false)) fun b8=>
lt_ (cnd (!b8) (cnd ((q:Int)==0) (true) (cnd (decide ((f.toNat:Int) < 48)) (true) (decide ((f.toNat:Int) > 57)))) (false)) fun y=>
(cnd y (
false) (
gBm xs (q+1)))
def pF(f:LB):Bool:=
lt_ (cnd (!(gBa (f.length:Int) 1 8)) (true) (gJ9 f)) fun q=>
(cnd q (
false) (
gBm f 0))
theorem uB(y:LB):gW Tryz.prog 148 [.S y] [.b (pF y)]:=by
 obtain⟨r,h⟩:∃r,pF y=r:=⟨_,rfl⟩
 rw [h];unfold pF at h;refine SpI Tryz.func148 fun A _=>?_;refine goL ?_;refine gX (gD (gIv (y.length:Int) 1 8)) ?_;obtain⟨b1,hb1,h⟩:=pI h;refine kG ⟨[(0,.S y),(12,.B b1)],[],Tryz.f148.ntmps⟩ ?_ ?_
 ·refine gqO 9 hb1 (fun c2 hb1=>?_);refine gX (gD (gY0 y)) ?_;cases hb1;exact eJ
 refine goC h ?_ ?_<;>intro c3 h
 ·refine goL ?_;refine jH ?_;subst h;exact mM
 ·refine goS ?_;refine noB ?_;refine hQf 0 (fun z5=>?_);refine kZ (fun(f:Nat)=>⟨[(0,.S y),(3,.N f)],[],Tryz.f148.ntmps⟩) (fun f=>gBm (y.drop f) f=r) (fun f=>y.length - f) 0 eJ h ?_;rintro f h;refine goL ?_;refine kN (fun c6=>?_) (fun c6=>?_)
  ·have q:=hWo c6;obtain⟨x7,aa,ab⟩:=drop_at q;rw [ab,gBm.eq_2] at h;refine noS ?_;refine kC (gP ?_);refine goL ?_;refine gX (gLb f aa) ?_;obtain⟨b8,hb8,h⟩:=pI h;refine kG ⟨[(0,.S y),(3,.N f),(4,.B b8)],[],Tryz.f148.ntmps⟩ ?_ ?_
   ·refine gqA 23 hb8 (fun c9 hb8=>?_);refine gX (gLb f aa) ?_;cases hb8;exact eJ
   refine goL ?_;obtain⟨ad,hb10,h⟩:=pI h;refine kG ⟨[(0,.S y),(3,.N f),(46,.B ad)],[],Tryz.f148.ntmps⟩ ?_ ?_
   ·refine gqA 31 hb10 (fun ah hb10=>?_);refine gqO 34 hb10 (fun ai hb10=>?_);refine gX (gLb f aa) ?_;refine gqO 40 hb10 (fun aj hb10=>?_);refine gX (gLb f aa) ?_;cases hb10;exact eJ
   refine goC h ?_ ?_<;>intro ak h
   ·refine goL ?_;refine jH ?_;subst h;exact mM
   ·refine goS ?_;refine gX (jK f (by omega)) ?_;exact⟨(f+1),h,by omega,eJ⟩
  ·have q:=hWp c6;rw [gT q,gBm.eq_1] at h;refine goX ?_;refine jH ?_;subst h;exact mM
def gD0(f:gF→Option (Int)):List gF→Int→Option (Int)
 | [],q=>(some q)
 | y::xs,q=>bnd (f y) fun x6=>
gD0 f xs (gQl q (IntKind.i64.wrap ((1:Int)+x6)))
def gOu(f:gF→Option (Int))(q:gF):Option (Int):=
gD0 f q.args 0
theorem hBu{f:gF→Option (Int)}(q:∀(x0:gF){r:Int},f x0=some r→gW Tryz.prog 220 [.d (kT x0)] [.i .i64 r])(a0:gF){r:Int}(h:gOu f a0=some r):gW Tryz.prog 220 [.d (kT a0)] [.i .i64 r]:=by
 obtain⟨ad,ae,aa⟩:=a0;unfold gOu at h;refine SpI Tryz.func220 fun A _=>?_;refine goL ?_;refine noB ?_;refine pG 0 2 (fun z3=>?_);refine gAg (fun(y2:Nat)(y1:Int)=>⟨[(1,.ptr 0 0),(3,.I y1),(4,.N y2)],[bTy ad ae aa],Tryz.f220.ntmps⟩) (fun y2 y1=>gD0 f (aa.drop y2) y1=some r) (fun y2 y1=>aa.length - y2) 0 0 eJ h ?_;rintro y2 y1 h;refine goL ?_;refine kN (fun c4=>?_) (fun c4=>?_)
 ·have y:=qB c4;obtain⟨x5,aj,ag⟩:=drop_at y;rw [ag,gD0.eq_2] at h;obtain⟨am,an,ao⟩:=x5;refine noS ?_;refine kC (gP ?_);refine goL ?_;refine gX (gV y2 (gAw aj)) ?_;obtain⟨x6,ak,h⟩:=gK h;refine pX (gD (q _ ak)) ?_;refine pX (pR) ?_;refine gX (gD (hJc y1 (IntKind.i64.wrap ((1:Int)+x6)))) ?_;refine gX (jK y2 (by omega)) ?_;exact⟨(y2+1),(gQl y1 (IntKind.i64.wrap ((1:Int)+x6))),h,by omega,eJ⟩
 ·have y:=qC c4;rw [gT y,gD0.eq_1] at h;refine goX ?_;refine jH ?_;cases h;exact mM
def gOv:Nat→gF→Option (Int)
 | 0,_=>none
 | n+1,f=>gOu (gOv n) f
theorem hBv:∀(n:Nat)(f:gF){r:Int},gOv n f=some r→gW Tryz.prog 220 [.d (kT f)] [.i .i64 r]:=by
 intro n
 induction n with
 | zero=>intro f r h;cases h
 | succ n ih=>intro f r h;exact hBu ih f h
def gJ2(f:gY):Option LS:=
bnd (gVm 5000 f [] []) fun q=>
(some q)
theorem gT4(a0:gY){r:LS}(h:gJ2 a0=some r):gW Tryz.prog 279 [.d (vX a0)] [.sl 1 (kD r)]:=by
 obtain⟨aa,ab,ac,ad,⟨f,q,y⟩,ae,ag⟩:=a0;unfold gJ2 at h;refine SpI Tryz.func279 fun A _=>?_;refine goL ?_;refine gFh ?_;refine gFh ?_;refine gS9 1 rfl rfl ?_;obtain⟨x1,ai,h⟩:=gK h;refine gLg [2] (hJj 5000 (gY.mk aa ab ac ad (gF.mk f q y) ae ag) [] [] 0 ai) ?_;rintro _ _ ⟨v2,rfl,rfl⟩;show VO _ _ _ _ ⟨(_,.sl 2 v2)::_,[bEx aa ab ac ad f q y ae ag,.frz 9 1 0 [],.own 9 1 v2 (kD x1)],_⟩ _;refine goL ?_;refine qW 2 rfl rfl ?_;refine jH ?_;cases h;exact mM
end Go.Proofs.YtfjncckelekpiaaGreat
