import Derived.Test.YtfjncckelekpiaaGreatB25
set_option maxHeartbeats 4000000
set_option linter.unusedVariables false
set_option linter.unusedSimpArgs false
set_option linter.unusedSectionVars false
namespace Go.Proofs.YtfjncckelekpiaaGreat
open Go Go.Eng
attribute [local irreducible] V VO VQ VY Quiet QR gW pJ Rng vF uW uI
def gAr(f:mE):List kW→LS→Option (Bool)
 | [],q=>lt_ (cnd f.auto (cnd f.assoc (true) (cnd (decide ((f.signatures.length:Int) > 0)) (true) (decide ((f.supertraits.length:Int) > 0)))) (false)) fun y=>
(cnd y (some false) (
bnd (cnd (pF f.name) (bnd (zY f.supertraits 4) fun aa=>
(cnd aa (bnd (zY q 6) fun ab=>
some ab) (some false))) (some false)) fun ac=>
some ac))
 | x6::xs,q=>bnd (gY5 x6) fun x7=>
(cnd (!x7) (some false) (
gd (q.length+[x6.name].length≤4294967296) (
gAr f xs (q++[x6.name]))))
def gGq(f:mE):Option (Bool):=
gAr f f.signatures []
theorem gOk(a0:mE){r:Bool}(h:gGq a0=some r):gW Tryz.prog 207 [.d (gF2 a0)] [.b r]:=by
 obtain⟨q,aa,ab,ac,f⟩:=a0;unfold gGq at h;refine SpI Tryz.func207 fun A _=>?_;refine goL ?_;refine gFh ?_;refine goL ?_;refine noB ?_;refine pG 0 4 (fun z4=>?_);refine kQ (fun(y3:Nat)(y1:LS)(v2:Nat)=>⟨[(1,.ptr 0 0),(3,.sl 1 v2),(4,.N y3)],[bTr q aa ab ac f,.own 9 1 v2 (kD y1)],Tryz.f207.ntmps⟩) (fun y3 y1 v2=>gAr (mE.mk q aa ab ac f) (f.drop y3) y1=some r) (fun y3 y1 v2=>f.length - y3) 0 [] 0 eJ h ?_;rintro y3 y1 v2 h;refine goL ?_;refine kN (fun c5=>?_) (fun c5=>?_)
 ·have y:=qB c5;obtain⟨x6,al,am⟩:=drop_at y;rw [am,gAr.eq_2] at h;obtain⟨ah,a9,⟨ap,aq,ar⟩,ba,bb,⟨au,av,aw,ax,⟨ai,aj,ak⟩,ay,a2⟩⟩:=x6;refine noS ?_;refine kC (gP ?_);refine goL ?_;refine gX (gV y3 (vU al)) ?_;obtain⟨x7,a5,h⟩:=gK h;refine gX (gD (hPh _ a5)) ?_;refine kN (fun c8=>?_) (fun c8=>?_)
  ·replace h:=jU c8 h;exact goR h
  ·replace h:=jV c8 h;refine goS ?_;refine gX (gV y3 (vU al)) ?_;refine gAz ah ?_;obtain⟨g9,h⟩:=mI h;refine gDj g9 ?_;refine goL ?_;refine gX (jK y3 (by omega)) ?_;exact⟨(y3+1),(y1++[ah]),(v2+1),h,by omega,eJ⟩
 ·have y:=qC c5;rw [gT y,gAr.eq_1] at h;refine goX ?_;obtain⟨a7,hb10,h⟩:=pI h;refine kG ⟨[(1,.ptr 0 0),(3,.sl 1 v2),(46,.B a7)],[bTr q aa ab ac f,.own 9 1 v2 (kD y1)],Tryz.f207.ntmps⟩ ?_ ?_
  ·refine gqA 31 hb10 (fun be hb10=>?_);refine gqO 34 hb10 (fun bf hb10=>?_);exact gqZ 40 hb10
  refine goC h ?_ ?_<;>intro bg h
  ·exact goR h
  ·refine goS ?_;refine gX (gD (uB q)) ?_;obtain⟨a8,hb15,h⟩:=gK h;refine kG ⟨[(2,.B a8)],[bTr q aa ab ac f,.own 9 1 v2 (kD y1)],Tryz.f207.ntmps⟩ ?_ ?_
   ·refine gqA 50 hb15 (fun bh hb15=>?_);obtain⟨bi,an,hb15⟩:=gK hb15;refine gX (gD (gBs _ _ an)) ?_;refine gqA 55 hb15 (fun bj hb15=>?_);obtain⟨bk,ao,hb15⟩:=gK hb15;refine gC1 (gUn (gBs y1 6 ao)) ?_;cases hb15;exact eJ
   exact goR h
def yK(a0:gH)(x1:gH)(x3:LS):List gH→(List mJ)→Option (jW × Bool)
 | [],f=>bnd (bnd (vC a0) fun ae=>
(cnd (!ae) (some true) (cnd ((a0.list.length:Int)==0) (some true) (bnd (gGk (jW.mk x1.atom x3 f)) fun ag=>
bnd (gEo 5000 ag a0) fun ah=>
some (!ah))))) fun ai=>
(cnd ai (some ((jW.mk [] [] []),false)) (some ((jW.mk x1.atom x3 f),true)))
 | q::xs,f=>bnd (uR q 0) fun y=>
bnd (gMu q 1) fun aj=>
bnd (gT9 aj) fun aa=>
gd (f.length+[(mJ.mk y.atom aa)].length≤4294967296) (
yK a0 x1 x3 xs (f++[(mJ.mk y.atom aa)]))
def gC9(f:gH):Option (jW × Bool):=
bnd (uR f 1) fun q=>
bnd (uR f 2) fun y=>
bnd (gEr y) fun x3=>
bnd (gMu f 3) fun x4=>
yK f q x3 x4 []
theorem gRg(a0:gH){r:jW × Bool}(h:gC9 a0=some r):gW Tryz.prog 145 [.d (qL a0)] [gAf r.1,.b r.2]:=by
 obtain⟨y,aa⟩:=a0;unfold gC9 at h;refine SpI Tryz.func145 fun A _=>?_;refine gCj ?_;refine sZ 1 ?_;refine goW ?_;obtain⟨⟨q,ak⟩,aw,h⟩:=gK h;refine kR (fun _=>gD (vL _ _ aw)) ?_;refine kR (fun _=>gL4) ?_;refine goW ?_;obtain⟨⟨bd,be⟩,ax,h⟩:=gK h;refine kR (fun _=>gD (vL _ _ ax)) ?_;obtain⟨x3,ay,h⟩:=gK h;refine kR (fun _=>gD (gH4 _ ay)) ?_;refine goW ?_;refine jY ?_;refine goL ?_;obtain⟨x4,a3,h⟩:=gK h;refine gX (gD (gRu _ _ a3)) ?_;refine noB ?_;refine uA 255 2 2 2 rfl rfl (by repeat constructor) (by repeat constructor) (by repeat constructor) (by repeat constructor) ?_;show V _ _ _ _ _;refine gB0 5 (fun z8=>?_);refine kQ (fun(y7:Nat)(y5:List mJ)(v6:Nat)=>⟨[(1,.ptr 0 0),(2,.ptr 1 0),(4,.ptr 2 0),(5,.L 2 (kE x4)),(6,.N y7)],[bSx y aa,.box [.S [],.nilsl,.nilsl],.box [.S q,.L 1 (kD x3),.sl 3 v6],.arr 255 2 v6 (zN y5)],Tryz.f145.ntmps⟩) (fun y7 y5 v6=>yK (gH.mk y aa) (gH.mk q ak) x3 (x4.drop y7) y5=some r) (fun y7 y5 v6=>x4.length - y7) 0 [] 0 eJ h ?_;rintro y7 y5 v6 h;refine goL ?_;refine kN (fun c9=>?_) (fun c9=>?_)
 ·have f:=qB c9;obtain⟨a5,ag,ah⟩:=drop_at f;rw [ah,yK.eq_2] at h;obtain⟨a6,a7⟩:=a5;refine noS ?_;refine kC (gP ?_);refine dZ 0 ?_;refine goW ?_;refine kR (fun _=>gV y7 (vW ag)) ?_;refine goW ?_;obtain⟨⟨ab,a8⟩,al,h⟩:=gK h;refine kR (fun _=>gD (vL _ _ al)) ?_;refine kR (fun _=>gL4) ?_;refine goW ?_;refine kR (fun _=>gV y7 (vW ag)) ?_;refine goW ?_;obtain⟨bf,am,h⟩:=gK h;refine kR (fun _=>gD (gRu _ _ am)) ?_;obtain⟨an,ao,h⟩:=gK h;refine kR (fun _=>gD (hFb _ ao)) ?_;refine goW ?_;refine uK (us:=zN [(mJ.mk ab an)]) ?_;obtain⟨a9,h⟩:=mI h;refine uL a9 ?_;refine goW ?_;refine jY ?_;refine goL ?_;refine gX (jK y7 (by omega)) ?_;exact⟨(y7+1),(y5++[(mJ.mk ab an)]),(v6+1),h,by omega,eJ⟩
 ·have f:=qC c9;rw [gT f,yK.eq_1] at h;refine noX ?_;refine gCj ?_;refine jS 3 rfl rfl ?_;obtain⟨ba,hb15,h⟩:=gK h;refine qN (P:=Tryz.prog) Mix.h ⟨[(2,.ptr 1 0),(4,.ptr 2 0),(55,.B ba)],[bSx y aa,.box [.S [],.nilsl,.nilsl],.box [.S q,.L 1 (kD x3),.sl 3 v6],.frz 255 2 v6 (zN y5)],Tryz.f145.ntmps⟩ (by kernel_rfl) ?_ ?_
  ·refine goL ?_;obtain⟨bg,ap,hb15⟩:=gK hb15;refine wC (gD (gAj _ ap)) ?_;refine goL ?_;refine qE 43 (fun ai=>?_) (fun ai=>?_)
   ·replace hb15:=jU ai hb15;refine goL ?_;cases hb15;exact eJ
   ·replace hb15:=jV ai hb15;refine goL ?_;refine qE 49 (fun aj=>?_) (fun aj=>?_)
    ·replace hb15:=jU aj hb15;refine goL ?_;cases hb15;exact eJ
    ·replace hb15:=jV aj hb15;refine goL ?_;obtain⟨⟨bb,bc⟩,aq,hb15⟩:=gK hb15;refine hIa (hDc (gRf (jW.mk q x3 y5) aq)) ?_;refine goL ?_;obtain⟨bh,ar,hb15⟩:=gK hb15;refine wN (gD (gJ8 _ _ _ ar)) ?_;refine goL ?_;cases hb15;exact eJ
  refine goC h ?_ ?_<;>intro bi h
  ·refine goL ?_;refine uX (jI TBd.h TZ.h rfl (by repeat constructor)) ?_;exact goR h
  ·refine goS ?_;refine jH ?_;cases h;exact mM
def yL(y:gH):List qX→(List gH)→Option (gH)
 | [],f=>bnd (gTh true (gH.mk y.atom f)) fun ab=>
(some ab)
 | q::xs,f=>lt_ (mZ q.name) fun ac=>
bnd (gCx q.vars) fun ad=>
bnd (gQk 5000 q.body) fun ae=>
bnd (gLz [ac,ad,ae]) fun aa=>
gd (f.length+[aa].length≤4294967296) (
yL y xs (f++[aa]))
def gGr(f:jF):Option (gH):=
bnd (gC6 f) fun x1=>
(cnd (!x1) (some (gH.mk [] [])) (
bnd (cnd f.default_ (
gd (([]:LS).length+([[100,101,102,97,117,108,116]]:LS).length≤4294967296) (some ([]++[[100,101,102,97,117,108,116]]))) (some [])) fun b3=>
bnd (cnd f.hasAssoc (
bnd (gQd 5000 f.assoc) fun x9=>
bnd (gLz [x9]) fun q=>
some (q.atom,q.list)) (some ([],[]))) fun b7=>
lt_ (mZ [105,110,115,116]) fun aa=>
lt_ (mZ f.trait) fun ab=>
bnd (gCx f.vars) fun ac=>
bnd (gQd 5000 f.head) fun ad=>
bnd (gPo f.where_) fun ae=>
bnd (gCx b3) fun ag=>
bnd (gMv [aa,ab,ac,ad,ae,ag,(gH.mk b7.1 b7.2)]) fun y=>
yL y f.methods y.list))
theorem gRh(a0:jF){r:gH}(h:gGr a0=some r):gW Tryz.prog 204 [.d (vY a0)] [qL r]:=by
 obtain⟨a2,a3,⟨ao,ap,aq⟩,a4,a5,a6,⟨ar,au,av⟩,ax⟩:=a0;unfold gGr at h;refine SpI Tryz.func204 fun A _=>?_;refine goL ?_;obtain⟨x1,ch,h⟩:=gK h;refine gX (gD (gLr _ ch)) ?_;refine kN (fun c2=>?_) (fun c2=>?_)
 ·replace h:=jU c2 h;refine goL ?_;refine uX (jI TBd.h TZ.h rfl (by repeat constructor)) ?_;exact goR h
 ·replace h:=jV c2 h;refine goS ?_;refine gFh ?_;refine goL ?_;obtain⟨b3,hb3,h⟩:=gK h;refine gTa (fun v4=>⟨[(1,.ptr 0 0),(2,.ptr 1 0),(3,.sl 2 v4)],[bIn a2 a3 ao ap aq a4 a5 a6 ar au av ax,.box [.S [],.nilsl],.own 9 1 v4 (kD b3)],Tryz.f204.ntmps⟩) ?_ (fun v4=>?_)
  ·refine kN (fun c5=>?_) (fun c5=>?_)
   ·replace hb3:=jU c5 hb3;refine goL ?_;refine gAz ([100,101,102,97,117,108,116]:LB) ?_;obtain⟨g6,hb3⟩:=mI hb3;refine gDj g6 ?_;refine goL ?_;cases hb3;exact⟨(0+1),eJ⟩
   ·replace hb3:=jV c5 hb3;refine gCs ?_;cases hb3;exact⟨0,eJ⟩
  refine goL ?_;refine gC1 (jI TBd.h TZ.h rfl (by repeat constructor)) ?_;refine hM7 2 3 1 rfl rfl (by repeat constructor) (by repeat constructor) ?_;obtain⟨⟨f,y⟩,hb7,h⟩:=gK h;refine gHf ⟨[(1,.ptr 0 0),(2,.ptr 1 0),(3,.sl 2 v4),(4,.ptr 3 0)],[bIn a2 a3 ao ap aq a4 a5 a6 ar au av ax,.box [.S [],.nilsl],.own 9 1 v4 (kD b3),bSx f y],Tryz.f204.ntmps⟩ ?_ ?_
  ·refine kN (fun c8=>?_) (fun c8=>?_)
   ·replace hb7:=jU c8 hb7;refine goL ?_;obtain⟨⟨bf,bg⟩,cl,hb7⟩:=gK hb7;refine pX (gD (gTo _ _ cl)) ?_;refine uN (u:=(.st [.s bf,.sl 2 (kE bg)])) ?_;refine qV 4 rfl rfl ?_;refine hEn ?_;obtain⟨⟨cm,cn⟩,bv,hb7⟩:=gK hb7;refine gC1 (hDc (gPw [(gH.mk bf bg)] bv)) ?_;cases hb7;exact eJ
   ·replace hb7:=jV c8 hb7;refine gCs ?_;cases hb7;exact eJ
  refine gCj ?_;refine qW 2 rfl rfl ?_;refine hZx ?_;obtain⟨⟨aa,ab⟩,bw,h⟩:=pI h;have sx11:=pO [105,110,115,116];rw [bw] at sx11;obtain⟨⟨ac,ad⟩,bx,h⟩:=pI h;have sx12:=pO a2;rw [bx] at sx12;obtain⟨⟨ae,ah⟩,bz,h⟩:=gK h;obtain⟨⟨ai,aj⟩,b0,h⟩:=gK h;obtain⟨⟨ak,al⟩,b1,h⟩:=gK h;obtain⟨⟨am,an⟩,b2,h⟩:=gK h;obtain⟨⟨aw,ay⟩,bb,h⟩:=gK h;refine gL3 (P:=Tryz.prog) Mix.h (q3T 0 (q3T 3 (q3T 6 (q3T 9 (q3T 12 (.q 15 (.h 16 (.h 17 (hcT 18 (hzT 19)) (hcT 18 (hcT 17 (hzT 19)))) (hcT 18 (hcT 16 (hcT 17 (hzT 19))))))))))) ⟨[(1,.ptr 0 0),(2,.ptr 1 0),(5,.ptr 6 0)],[bIn a2 a3 ao ap aq a4 a5 a6 ar au av ax,.box [.S [],.nilsl],.frz 9 1 v4 (kD b3),bSx f y,.frz 148 2 0 (kE [(gH.mk aa ab),(gH.mk ac ad),(gH.mk ae ah),(gH.mk ai aj),(gH.mk ak al),(gH.mk am an),(gH.mk f y)]),.arr 148 2 0 (kE ay),.box [.S aw,.sl 5 0]],Tryz.f204.ntmps⟩ (by kernel_rfl) ?_ ?_
  ·refine hGg (zL rfl (gD (sx11)) gQh) ?_;refine goT ?_;refine hGg (zL rfl (gD (sx12)) gQh) ?_;refine goT ?_;refine hGg (zL rfl (gD (gFw _ bz)) gQh) ?_;refine goT ?_;refine hGg (zL rfl (gD (gTo _ _ b0)) gQh) ?_;refine goT ?_;refine hGg (zL rfl (gD (gX2 _ b1)) gQh) ?_;refine goT ?_;refine hGg (zL rfl (gD (gFw _ b2)) gQh) ?_;refine goT ?_;refine hSa (gN3 (T:=146) (us:=kE [(gH.mk aa ab),(gH.mk ac ad),(gH.mk ae ah),(gH.mk ai aj),(gH.mk ak al),(gH.mk am an),(gH.mk f y)]) gQh) ?_ ?_
   ·refine hSa (gWy 4 rfl rfl (gPc (sv:=.ag [.S aw,.sl 5 0]) (L':=[bIn a2 a3 ao ap aq a4 a5 a6 ar au av ax,.box [.S [],.nilsl],.frz 9 1 v4 (kD b3),bSx f y,.frz 148 2 0 (kE [(gH.mk aa ab),(gH.mk ac ad),(gH.mk ae ah),(gH.mk ai aj),(gH.mk ak al),(gH.mk am an),(gH.mk f y)]),.arr 148 2 0 (kE ay)]) [] (gJp [(gH.mk aa ab),(gH.mk ac ad),(gH.mk ae ah),(gH.mk ai aj),(gH.mk ak al),(gH.mk am an),(gH.mk f y)] bb) gQh)) ?_ ?_
    ·refine goT ?_;refine gPa ?_;exact hIu 0 [0,1,2,3,4,5,6]
    refine goT ?_;refine gWw (gWy 4 rfl rfl (gPc (sv:=.ag [.S aw,.sl 6 0]) (L':=[bIn a2 a3 ao ap aq a4 a5 a6 ar au av ax,.box [.S [],.nilsl],.frz 9 1 v4 (kD b3),bSx f y,.frz 148 2 0 (kE [(gH.mk aa ab),(gH.mk ac ad),(gH.mk ae ah),(gH.mk ai aj),(gH.mk ak al),(gH.mk am an),(gH.mk f y)]),.box [.S [],.nilsl],.arr 148 2 0 (kE ay)]) [] (gJp [(gH.mk aa ab),(gH.mk ac ad),(gH.mk ae ah),(gH.mk ai aj),(gH.mk ak al),(gH.mk am an),(gH.mk f y)] bb) gQh)) ?_;refine goT ?_;refine gPa ?_;exact hIu 0 [0,1,2,3,4,6,5]
   refine goT ?_;refine gWw (gN3 (T:=146) (us:=kE [(gH.mk aa ab),(gH.mk ac ad),(gH.mk ae ah),(gH.mk ai aj),(gH.mk ak al),(gH.mk am an),(gH.mk f y)]) gQh) ?_;refine gWw (gWy 5 rfl rfl (gPc (sv:=.ag [.S aw,.sl 6 0]) (L':=[bIn a2 a3 ao ap aq a4 a5 a6 ar au av ax,.box [.S [],.nilsl],.frz 9 1 v4 (kD b3),bSx f y,.box [.S [],.nilsl],.frz 148 2 0 (kE [(gH.mk aa ab),(gH.mk ac ad),(gH.mk ae ah),(gH.mk ai aj),(gH.mk ak al),(gH.mk am an),(gH.mk f y)]),.arr 148 2 0 (kE ay)]) [] (gJp [(gH.mk aa ab),(gH.mk ac ad),(gH.mk ae ah),(gH.mk ai aj),(gH.mk ak al),(gH.mk am an),(gH.mk f y)] bb) gQh)) ?_;refine goT ?_;refine gPa ?_;exact hIu 0 [0,1,2,3,5,6,4]
  refine goL ?_;refine noB ?_;refine pG 0 11 (fun cu=>?_);refine kQ (fun(a7:Nat)(a9:List gH)(ba:Nat)=>⟨[(1,.ptr 0 0),(2,.ptr 1 0),(5,.ptr 6 0),(6,.N a7)],[bIn a2 a3 ao ap aq a4 a5 a6 ar au av ax,.box [.S [],.nilsl],.frz 9 1 v4 (kD b3),bSx f y,.frz 148 2 0 (kE [(gH.mk aa ab),(gH.mk ac ad),(gH.mk ae ah),(gH.mk ai aj),(gH.mk ak al),(gH.mk am an),(gH.mk f y)]),.arr 148 2 ba (kE a9),.box [.S aw,.sl 5 ba]],Tryz.f204.ntmps⟩) (fun a7 a9 ba=>yL (gH.mk aw ay) (ax.drop a7) a9=some r) (fun a7 a9 ba=>ax.length - a7) 0 ay 0 eJ h ?_;rintro a7 a9 ba h;refine goL ?_;refine kN (fun bi=>?_) (fun bi=>?_)
  ·have a8:=qB bi;obtain⟨co,b4,bj⟩:=drop_at a8;rw [bj,yL.eq_2] at h;obtain⟨bk,cp,⟨b5,b6,b7,b8,⟨bl,bm,bn⟩,b9,ca⟩⟩:=co;refine noS ?_;refine kC (gP ?_);refine goL ?_;refine pX (gV a7 (gMi b4)) ?_;refine gCj ?_;refine dZ 0 ?_;refine goW ?_;obtain⟨⟨bo,bp⟩,cb,h⟩:=pI h;have sx24:=pO bk;rw [cb] at sx24;refine kR (fun _=>gD (sx24)) ?_;refine goW ?_;obtain⟨⟨bq,br⟩,cc,h⟩:=gK h;refine kR (fun _=>gD (gFw _ cc)) ?_;refine goW ?_;obtain⟨⟨bt,bu⟩,cd,h⟩:=gK h;refine kR (fun _=>gD (hDh _ _ cd)) ?_;refine uK (us:=kE [(gH.mk bo bp),(gH.mk bq br),(gH.mk bt bu)]) ?_;obtain⟨⟨bc,bd⟩,ce,h⟩:=gK h;refine kR (fun _=>gD (gPw _ ce)) ?_;refine uK (us:=kE [(gH.mk bc bd)]) ?_;obtain⟨cq,h⟩:=mI h;refine uL cq ?_;refine goW ?_;refine jY ?_;refine goL ?_;refine gX (jK a7 (by omega)) ?_;exact⟨(a7+1),(a9++[(gH.mk bc bd)]),(ba+1),h,by omega,eJ⟩
  ·have a8:=qC bi;rw [gT a8,yL.eq_1] at h;refine goX ?_;refine qV 5 rfl rfl ?_;refine hEn ?_;obtain⟨⟨cr,cs⟩,cf,h⟩:=gK h;refine uX (hDc (hAm true (gH.mk aw a9) cf)) ?_;exact goR h
def yM(f:kF):List jT→(List gH)→Option (gH)
 | [],y=>lt_ (mZ [102,110]) fun aa=>
lt_ (mZ f.name) fun ab=>
bnd (gCx f.vars) fun ac=>
bnd (gPo f.where_) fun ad=>
bnd (gQd 5000 f.result) fun ae=>
bnd (gQk 5000 f.body) fun ag=>
bnd (gLz [aa,ab,ac,ad,(gH.mk [] y),ae,ag]) fun ah=>
bnd (gTh true ah) fun ai=>
(some ai)
 | x8::xs,y=>lt_ (mZ x8.name) fun x9=>
bnd (gQd 5000 x8.type_) fun aj=>
bnd (gLz [x9,aj]) fun q=>
gd (y.length+[q].length≤4294967296) (
yM f xs (y++[q]))
def gGs(f:kF):Option (gH):=
bnd (gC7 f) fun q=>
(cnd (!q) (some (gH.mk [] [])) (
yM f f.params []))
theorem gRi(a0:kF){r:gH}(h:gGs a0=some r):gW Tryz.prog 205 [.d (gCr a0)] [qL r]:=by
 obtain⟨am,an,ao,ak,⟨aa,ab,ac⟩,⟨ad,ae,ag,ah,⟨f,q,y⟩,ai,aj⟩⟩:=a0;unfold gGs at h;refine SpI Tryz.func205 fun A _=>?_;refine goL ?_;obtain⟨x1,bx,h⟩:=gK h;refine gX (gD (gLs (kF.mk am an ao ak (gF.mk aa ab ac) (gY.mk ad ae ag ah (gF.mk f q y) ai aj)) bx)) ?_;refine kN (fun c2=>?_) (fun c2=>?_)
 ·replace h:=jU c2 h;refine goL ?_;refine uX (jI TBd.h TZ.h rfl (by repeat constructor)) ?_;exact goR h
 ·replace h:=jV c2 h;refine goS ?_;refine gC1 (jI TBd.h TZ.h rfl (by repeat constructor)) ?_;refine noB ?_;refine uA 148 2 2 1 rfl rfl (by repeat constructor) (by repeat constructor) (by repeat constructor) (by repeat constructor) ?_;show V _ _ _ _ _;refine pG 0 3 (fun z6=>?_);refine kQ (fun(y5:Nat)(y3:List gH)(v4:Nat)=>⟨[(1,.ptr 0 0),(2,.ptr 1 0),(3,.ptr 2 0),(4,.N y5)],[.box [.S am,.L 1 (kD an),.L 4 (kM ao),.L 4 (mK ak),.I aa,.S ab,.L 3 (jJ ac),.I ad,.S ae,.S ag,.I ah,.I f,.S q,.L 3 (jJ y),.L 9 (vP ai),.L 11 (gBv aj)],.box [.S [],.nilsl],.box [.S [],.sl 3 v4],.arr 148 2 v4 (kE y3)],Tryz.f205.ntmps⟩) (fun y5 y3 v4=>yM (kF.mk am an ao ak (gF.mk aa ab ac) (gY.mk ad ae ag ah (gF.mk f q y) ai aj)) (ak.drop y5) y3=some r) (fun y5 y3 v4=>ak.length - y5) 0 [] 0 eJ h ?_;rintro y5 y3 v4 h;refine goL ?_;refine kN (fun c7=>?_) (fun c7=>?_)
  ·have al:=qB c7;obtain⟨x8,bd,be⟩:=drop_at al;rw [be,yM.eq_2] at h;obtain⟨bf,⟨bt,bu,bv⟩⟩:=x8;refine noS ?_;refine kC (gP ?_);refine dZ 0 ?_;refine goW ?_;refine kR (fun _=>gV y5 (gQf bd)) ?_;refine goW ?_;obtain⟨⟨bg,bh⟩,b1,h⟩:=pI h;have sx9:=pO bf;rw [b1] at sx9;refine kR (fun _=>gD (sx9)) ?_;refine goW ?_;refine kR (fun _=>gV y5 (gQf bd)) ?_;refine goW ?_;obtain⟨⟨av,aw⟩,bi,h⟩:=gK h;refine kR (fun _=>gD (gTo _ _ bi)) ?_;refine uK (us:=kE [(gH.mk bg bh),(gH.mk av aw)]) ?_;obtain⟨⟨ap,aq⟩,bj,h⟩:=gK h;refine kR (fun _=>gD (gPw _ bj)) ?_;refine uK (us:=kE [(gH.mk ap aq)]) ?_;obtain⟨b2,h⟩:=mI h;refine uL b2 ?_;refine goW ?_;refine jY ?_;refine goL ?_;refine gX (jK y5 (by omega)) ?_;exact⟨(y5+1),(y3++[(gH.mk ap aq)]),(v4+1),h,by omega,eJ⟩
  ·have al:=qC c7;rw [gT al,yM.eq_1] at h;refine noX ?_;refine jS 3 rfl rfl ?_;refine hXb ?_;refine sZ 0 ?_;refine goW ?_;obtain⟨⟨ax,ay⟩,bk,h⟩:=pI h;have sx13:=pO [102,110];rw [bk] at sx13;refine kR (fun _=>gD (sx13)) ?_;refine goW ?_;obtain⟨⟨a2,a3⟩,bl,h⟩:=pI h;have sx14:=pO am;rw [bl] at sx14;refine kR (fun _=>gD (sx14)) ?_;refine goW ?_;obtain⟨⟨a4,a5⟩,bm,h⟩:=gK h;refine kR (fun _=>gD (gFw _ bm)) ?_;refine goW ?_;obtain⟨⟨a6,a7⟩,bn,h⟩:=gK h;refine kR (fun _=>gD (gX2 _ bn)) ?_;refine goW ?_;obtain⟨⟨a8,a9⟩,bo,h⟩:=gK h;refine kR (fun _=>gD (gTo _ _ bo)) ?_;refine goW ?_;obtain⟨⟨ba,bb⟩,bp,h⟩:=gK h;refine kR (fun _=>gD (hDh _ _ bp)) ?_;refine uK (us:=kE [(gH.mk ax ay),(gH.mk a2 a3),(gH.mk a4 a5),(gH.mk a6 a7),(gH.mk [] y3),(gH.mk a8 a9),(gH.mk ba bb)]) ?_;obtain⟨⟨b3,b4⟩,bq,h⟩:=gK h;refine kR (fun _=>gD (gPw _ bq)) ?_;obtain⟨⟨b5,b6⟩,br,h⟩:=gK h;refine kR (fun _=>gD (hAm _ _ br)) ?_;refine goW ?_;refine jY ?_;exact goR h
def gGt(f:gG→Int→gY→Option (Int))(a0:gG)(a1:Int)(a2:gY):Nat→Int→Int→Option (Int)
 | 0,y,q=>none
 | ab+1,y,q=>lt_ (cnd (decide (q < (a2.arms.length:Int))) (y==0) (false)) fun ac=>
(cnd ac (
bnd (at? a2.arms q) fun ad=>
bnd (f a0 a1 ad.body) fun ae=>
gGt f a0 a1 a2 ab ae (IntKind.i64.wrap (q+1))) (some y))
def gGu(f:gG→Int→gY→Option (Int))(a0:gG)(a1:Int)(q:gY)(n0:Nat):Nat→Int→Int→Option (Int)
 | 0,y2,y=>none
 | n4+1,y2,y=>lt_ (cnd (decide (y < (q.args.length:Int))) (y2==0) (false)) fun b5=>
(cnd b5 (
bnd (at? q.args y) fun x8=>
bnd (f a0 a1 x8) fun x9=>
gGu f a0 a1 q n0 n4 x9 (IntKind.i64.wrap (y+1))) (
gGt f a0 a1 q n0 y2 0))
def gOl(f:gG→Int→gY→Option (Int))(q:gG)(a1:Int)(y:gY)(n0:Nat):Option (Int):=
bnd (gVp q a1 y) fun x1=>
gGu f q a1 y n0 n0 x1 0
theorem hBn{f:gG→Int→gY→Option (Int)}(q:∀(x0:gG)(x1:Int)(x2:gY){r:Int},f x0 x1 x2=some r→gW Tryz.prog 74 [.d (jX x0),.I x1,.d (vX x2)] [.i .i64 r])(a0:gG)(a1:Int)(a2:gY){n0:Nat}{r:Int}(h:gOl f a0 a1 a2 n0=some r):gW Tryz.prog 74 [.d (jX a0),.I a1,.d (vX a2)] [.i .i64 r]:=by
 obtain⟨ac⟩:=a0;obtain⟨ad,ae,ag,ah,⟨y,aa,ab⟩,ai,aj⟩:=a2;unfold gOl at h;refine SpI Tryz.func74 fun A _=>?_;refine goL ?_;obtain⟨x1,bh,h⟩:=gK h;refine gX (gD (hJz _ _ _ bh)) ?_;refine noB ?_;refine kQ (fun(n4:Nat)(y2:Int)(y3:Int)=>⟨[(1,.I a1),(3,.ptr 0 0),(5,.ptr 1 0),(7,.I y2),(8,.I y3)],[bPr ac,bEx ad ae ag ah y aa ab ai aj],Tryz.f74.ntmps⟩) (fun n4 y2 y3=>gGu f (gG.mk ac) a1 (gY.mk ad ae ag ah (gF.mk y aa ab) ai aj) n0 n4 y2 y3=some r) (fun n4 y2 y3=>n4) n0 x1 0 eJ h ?_;rintro n4 y2 y3 h;rcases n4 with _ | n4
 ·cases h
 rw [gGu.eq_2] at h;refine goL ?_;obtain⟨b5,hb5,h⟩:=pI h;refine kG ⟨[(1,.I a1),(3,.ptr 0 0),(5,.ptr 1 0),(7,.I y2),(8,.I y3),(22,.B b5)],[bPr ac,bEx ad ae ag ah y aa ab ai aj],Tryz.f74.ntmps⟩ ?_ ?_
 ·exact gqZ 19 hb5
 refine goC h ?_ ?_<;>intro c7 h
 ·refine noS ?_;refine kC (gP ?_);refine goL ?_;obtain⟨x8,ar,h⟩:=gK h;obtain⟨ay,ar⟩:=yY ar;obtain⟨bq,br,bt,bu,⟨bc,bd,be⟩,bv,bw⟩:=x8;refine wC (kY ay (gO4 ar)) ?_;refine goL ?_;obtain⟨x9,bi,h⟩:=gK h;refine wC (gD (q _ _ _ bi)) ?_;refine goL ?_;refine gX (pR) ?_;exact⟨n4,x9,(IntKind.i64.wrap (y3+1)),h,Nat.lt_succ_self _,eJ⟩
 ·refine goX ?_;refine noB ?_;refine kQ (fun(ak:Nat)(am:Int)(al:Int)=>⟨[(1,.I a1),(3,.ptr 0 0),(5,.ptr 1 0),(7,.I am),(9,.I al)],[bPr ac,bEx ad ae ag ah y aa ab ai aj],Tryz.f74.ntmps⟩) (fun ak am al=>gGt f (gG.mk ac) a1 (gY.mk ad ae ag ah (gF.mk y aa ab) ai aj) ak am al=some r) (fun ak am al=>ak) n0 y2 0 eJ h ?_;rintro ak am al h;rcases ak with _ | ak
  ·cases h
  rw [gGt.eq_2] at h;refine goL ?_;obtain⟨bj,hb13,h⟩:=pI h;refine kG ⟨[(1,.I a1),(3,.ptr 0 0),(5,.ptr 1 0),(7,.I am),(9,.I al),(41,.B bj)],[bPr ac,bEx ad ae ag ah y aa ab ai aj],Tryz.f74.ntmps⟩ ?_ ?_
  ·exact gqZ 38 hb13
  refine goC h ?_ ?_<;>intro b1 h
  ·refine noS ?_;refine kC (gP ?_);refine goL ?_;obtain⟨bk,an,h⟩:=gK h;obtain⟨au,an⟩:=yY an;obtain⟨bl,bm,⟨a3,a4,a5,a6,⟨av,aw,ax⟩,a7,a8⟩⟩:=bk;refine wC (kY au (gYd an)) ?_;refine goL ?_;obtain⟨bn,a9,h⟩:=gK h;refine wC (gD (q _ _ _ a9)) ?_;refine goL ?_;refine gX (pR) ?_;exact⟨ak,bn,(IntKind.i64.wrap (al+1)),h,Nat.lt_succ_self _,eJ⟩
  ·refine goX ?_;refine jH ?_;cases h;exact mM
def gFy:Nat→gG→Int→gY→Option (Int)
 | 0,_,_,_=>none
 | n+1,f,q,y=>gOl (gFy n) f q y n
theorem gLv:∀(n:Nat)(f:gG)(q:Int)(y:gY){r:Int},gFy n f q y=some r→gW Tryz.prog 74 [.d (jX f),.I q,.d (vX y)] [.i .i64 r]:=by
 intro n
 induction n with
 | zero=>intro f q y r h;cases h
 | succ n ih=>intro f q y r h;exact hBn ih f q y h
def gCl(f:gG)(a1:Int):List mJ→Option (Int)
 | []=>(some 0)
 | y::xs=>bnd (gPr f a1 y.fields) fun q=>
(cnd (q != 0) (some q) (
gCl f a1 xs ))
def gCd(f:gG)(a1:Int)(q:jW):Option (Int):=
gCl f a1 q.constructors
theorem gZb(a0:gG)(a1:Int)(a2:jW){r:Int}(h:gCd a0 a1 a2=some r):gW Tryz.prog 100 [.d (jX a0),.I a1,.d (gAf a2)] [.i .i64 r]:=by
 obtain⟨aa⟩:=a0;obtain⟨ab,ac,q⟩:=a2;unfold gCd at h;refine SpI Tryz.func100 fun A _=>?_;refine goL ?_;refine noB ?_;refine pG 1 2 (fun z2=>?_);refine kZ (fun(y:Nat)=>⟨[(1,.I a1),(3,.ptr 0 0),(5,.ptr 1 0),(7,.N y)],[bPr aa,bDa ab ac q],Tryz.f100.ntmps⟩) (fun y=>gCl (gG.mk aa) a1 (q.drop y)  =some r) (fun y=>q.length - y) 0 eJ h ?_;rintro y h;refine goL ?_;refine kN (fun c3=>?_) (fun c3=>?_)
 ·have f:=qB c3;obtain⟨x4,ai,ad⟩:=drop_at f;rw [ad,gCl.eq_2] at h;obtain⟨ak,al⟩:=x4;refine noS ?_;refine kC (gP ?_);refine goL ?_;refine wC (gV y (qA ai)) ?_;refine goL ?_;obtain⟨x5,aj,h⟩:=gK h;refine wC (gD (gX6 _ _ _ aj)) ?_;refine goC h ?_ ?_<;>intro c6 h
  ·exact goR h
  ·refine goS ?_;refine gX (jK y (by omega)) ?_;exact⟨(y+1),h,by omega,eJ⟩
 ·have f:=qC c3;rw [gT f,gCl.eq_1] at h;refine goX ?_;refine jH ?_;cases h;exact mM
def gI3(f:(List jL)→(List gU)→Int→Int→Int→(List gM)→(List kK)→(List jZ)→Int→Int→(List gN)→Int→jN→Option (jN × Int))(pk:List jL)(wh:List gU)(sn:Int)(sc:Int)(sd:Int)(bs:List gM)(es:List kK)(os:List jZ)(sk:Int)(sa:Int)(evs:List gN)(e:jN)(x1:gF × Int)(y3:List gF)(ac:List gN)(ad:List jN):List qD→Int→(List qD)→Option (jN × Int)
 | [],aa,y=>(some ((jN.mk e.kind e.trait e.name e.n x1.1 y3 ac ad y),aa))
 | q::xs,aa,y=>gd (([]:LS).length+q.vars.length≤4294967296) (
bnd (f pk wh sn sc sd bs es os sk sa evs aa q.body) fun ab=>
gd (y.length+[(qD.mk q.constructor ([]++q.vars) ab.1)].length≤4294967296) (
gI3 f pk wh sn sc sd bs es os sk sa evs e x1 y3 ac ad xs ab.2 (y++[(qD.mk q.constructor ([]++q.vars) ab.1)])))
def gI4(f:(List jL)→(List gU)→Int→Int→Int→(List gM)→(List kK)→(List jZ)→Int→Int→(List gN)→Int→jN→Option (jN × Int))(pk:List jL)(wh:List gU)(sn:Int)(sc:Int)(sd:Int)(bs:List gM)(es:List kK)(os:List jZ)(sk:Int)(sa:Int)(evs:List gN)(e:jN)(x1:gF × Int)(y3:List gF)(ab:List gN):List jN→Int→(List jN)→Option (jN × Int)
 | [],y,q=>gI3 f pk wh sn sc sd bs es os sk sa evs e x1 y3 ab q e.arms y []
 | ac::xs,y,q=>bnd (f pk wh sn sc sd bs es os sk sa evs y ac) fun aa=>
gd (q.length+[aa.1].length≤4294967296) (
gI4 f pk wh sn sc sd bs es os sk sa evs e x1 y3 ab xs aa.2 (q++[aa.1]))
def gDo(f:(List jL)→(List gU)→Int→Int→Int→(List gM)→(List kK)→(List jZ)→Int→Int→(List gN)→Int→jN→Option (jN × Int))(pk:List jL)(wh:List gU)(sn:Int)(sc:Int)(sd:Int)(bs:List gM)(es:List kK)(os:List jZ)(sk:Int)(sa:Int)(evs:List gN)(e:jN)(x1:gF × Int)(y2:Int)(y3:List gF):List gN→(List gN)→Option (jN × Int)
 | [],q=>gI4 f pk wh sn sc sd bs es os sk sa evs e x1 y3 q e.args y2 []
 | y::xs,q=>(cnd (y.kind==0) (cnd (gBa y.n 0 (IntKind.i64.wrap ((evs.length:Int) - 1))) (
bnd (at? evs y.n) fun ah=>
bnd (gJe 5000 ah) fun aa=>
gd (q.length+[aa].length≤4294967296) (
gDo f pk wh sn sc sd bs es os sk sa evs e x1 y2 y3 xs (q++[aa]))) (
bnd (gJe 5000 (gN.mk 0 0 (gI.mk 0 0) [])) fun ab=>
gd (q.length+[ab].length≤4294967296) (
gDo f pk wh sn sc sd bs es os sk sa evs e x1 y2 y3 xs (q++[ab])))) (
bnd (gJe 5000 y) fun ac=>
gd (q.length+[ac].length≤4294967296) (
gDo f pk wh sn sc sd bs es os sk sa evs e x1 y2 y3 xs (q++[ac]))))
def gI5(f:(List jL)→(List gU)→Int→Int→Int→(List gM)→(List kK)→(List jZ)→Int→Int→(List gN)→Int→jN→Option (jN × Int))(pk:List jL)(wh:List gU)(sn:Int)(sc:Int)(sd:Int)(bs:List gM)(es:List kK)(os:List jZ)(sk:Int)(sa:Int)(evs:List gN)(e:jN)(x1:gF × Int):List gF→Int→(List gF)→Option (jN × Int)
 | [],y,q=>gDo f pk wh sn sc sd bs es os sk sa evs e x1 y q e.evidence []
 | x8::xs,y,q=>bnd (gZa pk wh sn sc sd bs es os sk sa evs y x8) fun x9=>
gd (q.length+[x9.1].length≤4294967296) (
gI5 f pk wh sn sc sd bs es os sk sa evs e x1 xs x9.2 (q++[x9.1]))
def gVw(f:(List jL)→(List gU)→Int→Int→Int→(List gM)→(List kK)→(List jZ)→Int→Int→(List gN)→Int→jN→Option (jN × Int))(pk:List jL)(wh:List gU)(sn:Int)(sc:Int)(sd:Int)(bs:List gM)(es:List kK)(os:List jZ)(sk:Int)(sa:Int)(evs:List gN)(code:Int)(e:jN):Option (jN × Int):=
bnd (gZa pk wh sn sc sd bs es os sk sa evs code e.type_) fun q=>
gI5 f pk wh sn sc sd bs es os sk sa evs e q e.typeArgs q.2 []
theorem hJ9{f:(List jL)→(List gU)→Int→Int→Int→(List gM)→(List kK)→(List jZ)→Int→Int→(List gN)→Int→jN→Option (jN × Int)}(ae:∀(x0:List jL)(x1:List gU)(x2:Int)(x3:Int)(x4:Int)(x5:List gM)(x6:List kK)(x7:List jZ)(x8:Int)(x9:Int)(cq:List gN)(dd:Int)(de:jN){r:jN × Int},f x0 x1 x2 x3 x4 x5 x6 x7 x8 x9 cq dd de=some r→Go.Eng.Spec Tryz.prog 127 [.ptr 0 0,.d (gBo de)] [b34 x0 x1 x2 x3 x4 x5 x6 x7 x8 x9 cq dd] (fun sv Lo=>sv=.d (gBo r.1)∧Lo=[b34 x0 x1 x2 x3 x4 x5 x6 x7 x8 x9 cq r.2]))(pk:List jL)(wh:List gU)(sn:Int)(sc:Int)(sd:Int)(bs:List gM)(es:List kK)(os:List jZ)(sk:Int)(sa:Int)(evs:List gN)(code:Int)(e:jN){r:jN × Int}(h:gVw f pk wh sn sc sd bs es os sk sa evs code e=some r):Go.Eng.Spec Tryz.prog 127 [.ptr 0 0,.d (gBo e)] [b34 pk wh sn sc sd bs es os sk sa evs code] (fun sv Lo=>sv=.d (gBo r.1)∧Lo=[b34 pk wh sn sc sd bs es os sk sa evs r.2]):=by
 obtain⟨ag,ah,ai,aj,⟨ab,ac,ad⟩,av,aw,ax,ay⟩:=e;unfold gVw at h;refine pK 1 Tryz.func127 rfl (by kernel_rfl) rfl rfl fun A _=>?_;refine gCj ?_;refine sZ 1 ?_;refine goW ?_;obtain⟨⟨⟨q,y,aa⟩,a7⟩,ea,h⟩:=gK h;refine gSk (LH.c1 0 (hJ7 _ _ _ _ _ _ _ _ _ _ _ _ _ ea)) ?_;refine goW ?_;refine jY ?_;refine goL ?_;refine noB ?_;refine uA 43 3 3 7 rfl rfl (by repeat constructor) (by repeat constructor) (by repeat constructor) (by repeat constructor) ?_;show V _ _ _ _ _;refine pG 1 7 (fun z6=>?_);refine gWs (fun(y5:Nat)(y2:Int)(y3:List gF)(v4:Nat)=>⟨[(0,.ptr 0 0),(3,.ptr 1 0),(4,.ptr 2 0),(5,.ptr 3 0),(6,.N y5)],[b34 pk wh sn sc sd bs es os sk sa evs y2,bCo ag ah ai aj ab ac ad av aw ax ay,.box [.I 0,.S [],.S [],.I 0,.I 0,.S [],.nilsl,.nilsl,.nilsl,.nilsl,.nilsl],.box [.I ag,.S ah,.S ai,.I aj,.I q,.S y,.L 3 (jJ aa),.sl 4 v4,.nilsl,.nilsl,.nilsl],.arr 43 3 v4 (jJ y3)],Tryz.f127.ntmps⟩) (fun y5 y2 y3 v4=>gI5 f pk wh sn sc sd bs es os sk sa evs (jN.mk ag ah ai aj (gF.mk ab ac ad) av aw ax ay) ((gF.mk q y aa),a7) (av.drop y5) y2 y3=some r) (fun y5 y2 y3 v4=>av.length - y5) 0 a7 [] 0 eJ h ?_;rintro y5 y2 y3 v4 h;refine goL ?_;refine kN (fun c7=>?_) (fun c7=>?_)
 ·have bw:=qB c7;obtain⟨x8,ec,df⟩:=drop_at bw;rw [df,gI5.eq_2] at h;obtain⟨ez,e0,e1⟩:=x8;refine noS ?_;refine kC (gP ?_);refine dZ 0 ?_;refine goW ?_;refine kR (fun _=>gV y5 (gAw ec)) ?_;refine goW ?_;obtain⟨⟨⟨bz,b0,b1⟩,dg⟩,ed,h⟩:=gK h;refine gSk (LH.c1 0 (hJ7 _ _ _ _ _ _ _ _ _ _ _ _ _ ed)) ?_;refine uK (us:=jJ [(gF.mk bz b0 b1)]) ?_;obtain⟨ee,h⟩:=mI h;refine uL ee ?_;refine goW ?_;refine jY ?_;refine goL ?_;refine gX (jK y5 (by omega)) ?_;exact⟨(y5+1),dg,(y3++[(gF.mk bz b0 b1)]),(v4+1),h,by omega,eJ⟩
 ·have bw:=qC c7;rw [gT bw,gI5.eq_1] at h;refine goX ?_;refine noB ?_;refine uA 106 5 3 8 rfl rfl (by repeat constructor) (by repeat constructor) (by repeat constructor) (by repeat constructor) ?_;show V _ _ _ _ _;refine pG 1 8 (fun e2=>?_);refine kQ (fun(ak:Nat)(al:List gN)(am:Nat)=>⟨[(0,.ptr 0 0),(3,.ptr 1 0),(4,.ptr 2 0),(5,.ptr 3 0),(7,.N ak)],[b34 pk wh sn sc sd bs es os sk sa evs y2,bCo ag ah ai aj ab ac ad av aw ax ay,.box [.I 0,.S [],.S [],.I 0,.I 0,.S [],.nilsl,.nilsl,.nilsl,.nilsl,.nilsl],.box [.I ag,.S ah,.S ai,.I aj,.I q,.S y,.L 3 (jJ aa),.sl 4 v4,.sl 5 am,.nilsl,.nilsl],.arr 43 3 v4 (jJ y3),.arr 106 5 am (mD al)],Tryz.f127.ntmps⟩) (fun ak al am=>gDo f pk wh sn sc sd bs es os sk sa evs (jN.mk ag ah ai aj (gF.mk ab ac ad) av aw ax ay) ((gF.mk q y aa),a7) y2 y3 (aw.drop ak) al=some r) (fun ak al am=>aw.length - ak) 0 [] 0 eJ h ?_;rintro ak al am h;refine goL ?_;refine kN (fun cr=>?_) (fun cr=>?_)
  ·have a0:=qB cr;obtain⟨ef,dh,cs⟩:=drop_at a0;rw [cs,gDo.eq_2] at h;obtain⟨ct,b7,⟨b8,b9⟩,cu⟩:=ef;refine noS ?_;refine kC (gP ?_);refine goL ?_;refine gX (gV ak (gMw dh)) ?_;refine kN (fun cv=>?_) (fun cv=>?_)
   ·replace h:=jU cv h;refine goL ?_;refine gC1 (jI TBd.h TZ.h rfl (by repeat constructor)) ?_;refine pX (pR) ?_;refine gX (gD (gIv b7 0 (IntKind.i64.wrap ((evs.length:Int) - 1)))) ?_;refine kN (fun cw=>?_) (fun cw=>?_)
    ·replace h:=jU cw h;refine goL ?_;obtain⟨eg,ca,h⟩:=gK h;obtain⟨cx,ca⟩:=yY ca;obtain⟨cy,cz,⟨cb,cc⟩,c0⟩:=eg;refine pX (kY cx (gMw ca)) ?_;refine gCj ?_;refine dZ 0 ?_;refine goW ?_;obtain⟨⟨cd,ce,⟨a8,a9⟩,cf⟩,di,h⟩:=gK h;refine kR (fun _=>gD ((gRo 5000 (gN.mk cy cz (gI.mk cb cc) c0) di).p)) ?_;refine uK (us:=mD [(gN.mk cd ce (gI.mk a8 a9) cf)]) ?_;obtain⟨eh,h⟩:=mI h;refine uL eh ?_;refine goW ?_;refine jY ?_;refine goL ?_;refine gX (jK ak (by omega)) ?_;exact⟨(ak+1),(al++[(gN.mk cd ce (gI.mk a8 a9) cf)]),(am+1),h,by omega,eJ⟩
    ·replace h:=jV cw h;refine noS ?_;refine dZ 0 ?_;refine goW ?_;obtain⟨⟨cg,ch,⟨ba,bb⟩,ci⟩,dj,h⟩:=gK h;refine kR (fun _=>gD ((gRo 5000 (gN.mk 0 0 (gI.mk 0 0) []) dj).p)) ?_;refine uK (us:=mD [(gN.mk cg ch (gI.mk ba bb) ci)]) ?_;obtain⟨ei,h⟩:=mI h;refine uL ei ?_;refine goW ?_;refine jY ?_;refine goL ?_;refine gX (jK ak (by omega)) ?_;exact⟨(ak+1),(al++[(gN.mk cg ch (gI.mk ba bb) ci)]),(am+1),h,by omega,eJ⟩
   ·replace h:=jV cv h;refine noS ?_;refine dZ 0 ?_;refine goW ?_;obtain⟨⟨cj,ck,⟨bc,bd⟩,cl⟩,dk,h⟩:=gK h;refine kR (fun _=>gD ((gRo 5000 (gN.mk ct b7 (gI.mk b8 b9) cu) dk).p)) ?_;refine uK (us:=mD [(gN.mk cj ck (gI.mk bc bd) cl)]) ?_;obtain⟨ej,h⟩:=mI h;refine uL ej ?_;refine goW ?_;refine jY ?_;refine goL ?_;refine gX (jK ak (by omega)) ?_;exact⟨(ak+1),(al++[(gN.mk cj ck (gI.mk bc bd) cl)]),(am+1),h,by omega,eJ⟩
  ·have a0:=qC cr;rw [gT a0,gDo.eq_1] at h;refine goX ?_;refine noB ?_;refine uA 48 11 3 9 rfl rfl (by repeat constructor) (by repeat constructor) (by repeat constructor) (by repeat constructor) ?_;show V _ _ _ _ _;refine pG 1 9 (fun e3=>?_);refine gWs (fun(a2:Nat)(b3:Int)(a3:List jN)(be:Nat)=>⟨[(0,.ptr 0 0),(3,.ptr 1 0),(4,.ptr 2 0),(5,.ptr 3 0),(10,.N a2)],[b34 pk wh sn sc sd bs es os sk sa evs b3,bCo ag ah ai aj ab ac ad av aw ax ay,.box [.I 0,.S [],.S [],.I 0,.I 0,.S [],.nilsl,.nilsl,.nilsl,.nilsl,.nilsl],.box [.I ag,.S ah,.S ai,.I aj,.I q,.S y,.L 3 (jJ aa),.sl 4 v4,.sl 5 am,.sl 6 be,.nilsl],.arr 43 3 v4 (jJ y3),.arr 106 5 am (mD al),.arr 48 11 be (zK a3)],Tryz.f127.ntmps⟩) (fun a2 b3 a3 be=>gI4 f pk wh sn sc sd bs es os sk sa evs (jN.mk ag ah ai aj (gF.mk ab ac ad) av aw ax ay) ((gF.mk q y aa),a7) y3 al (ax.drop a2) b3 a3=some r) (fun a2 b3 a3 be=>ax.length - a2) 0 y2 [] 0 eJ h ?_;rintro a2 b3 a3 be h;refine goL ?_;refine kN (fun c2=>?_) (fun c2=>?_)
   ·have a4:=qB c2;obtain⟨ek,dl,c3⟩:=drop_at a4;rw [c3,gI4.eq_2] at h;obtain⟨el,em,en,eo,⟨dm,dn,dp⟩,ep,er,et,eu⟩:=ek;refine noS ?_;refine kC (gP ?_);refine dZ 0 ?_;refine goW ?_;refine kR (fun _=>gV a2 (hWn dl)) ?_;refine goW ?_;obtain⟨⟨⟨bf,bg,bh,bi,⟨an,ao,ap⟩,bj,bk,bl,bm⟩,c4⟩,dq,h⟩:=gK h;refine gSk (LH.c1 0 (ae _ _ _ _ _ _ _ _ _ _ _ _ _ dq)) ?_;refine uK (us:=zK [(jN.mk bf bg bh bi (gF.mk an ao ap) bj bk bl bm)]) ?_;obtain⟨ev,h⟩:=mI h;refine uL ev ?_;refine goW ?_;refine jY ?_;refine goL ?_;refine gX (jK a2 (by omega)) ?_;exact⟨(a2+1),c4,(a3++[(jN.mk bf bg bh bi (gF.mk an ao ap) bj bk bl bm)]),(be+1),h,by omega,eJ⟩
   ·have a4:=qC c2;rw [gT a4,gI4.eq_1] at h;refine goX ?_;refine noB ?_;refine uA 312 13 3 10 rfl rfl (by repeat constructor) (by repeat constructor) (by repeat constructor) (by repeat constructor) ?_;show V _ _ _ _ _;refine pG 1 10 (fun e4=>?_);refine gWs (fun(a5:Nat)(b4:Int)(bx:List qD)(b5:Nat)=>⟨[(0,.ptr 0 0),(3,.ptr 1 0),(4,.ptr 2 0),(5,.ptr 3 0),(11,.N a5)],[b34 pk wh sn sc sd bs es os sk sa evs b4,bCo ag ah ai aj ab ac ad av aw ax ay,.box [.I 0,.S [],.S [],.I 0,.I 0,.S [],.nilsl,.nilsl,.nilsl,.nilsl,.nilsl],.box [.I ag,.S ah,.S ai,.I aj,.I q,.S y,.L 3 (jJ aa),.sl 4 v4,.sl 5 am,.sl 6 be,.sl 7 b5],.arr 43 3 v4 (jJ y3),.arr 106 5 am (mD al),.arr 48 11 be (zK a3),.arr 312 13 b5 (vK bx)],Tryz.f127.ntmps⟩) (fun a5 b4 bx b5=>gI3 f pk wh sn sc sd bs es os sk sa evs (jN.mk ag ah ai aj (gF.mk ab ac ad) av aw ax ay) ((gF.mk q y aa),a7) y3 al a3 (ay.drop a5) b4 bx=some r) (fun a5 b4 bx b5=>ay.length - a5) 0 b3 [] 0 eJ h ?_;rintro a5 b4 bx b5 h;refine goL ?_;refine kN (fun c5=>?_) (fun c5=>?_)
    ·have a6:=qB c5;obtain⟨ew,dr,c6⟩:=drop_at a6;rw [c6,gI3.eq_2] at h;obtain⟨cm,cn,⟨ds,dt,du,dv,⟨c8,c9,da⟩,dw,dx,dy,dz⟩⟩:=ew;refine noS ?_;refine kC (gP ?_);refine goL ?_;refine pX (gV a5 (gUo dr)) ?_;refine gCj ?_;refine dZ 1 ?_;refine goW ?_;refine gTb ?_;refine goW ?_;obtain⟨ex,h⟩:=mI h;refine uL ex ?_;refine goW ?_;obtain⟨⟨⟨bn,bo,bp,bq,⟨aq,ar,au⟩,br,bt,bu,bv⟩,db⟩,d0,h⟩:=gK h;refine gSk (LH.c1 0 (ae _ _ _ _ _ _ _ _ _ _ _ _ _ d0)) ?_;refine goW ?_;refine gSk (LH.frz 9 (h:=LH.ld (us:=vK [(qD.mk cm ([]++cn) (jN.mk bn bo bp bq (gF.mk aq ar au) br bt bu bv))]))) ?_;obtain⟨ey,h⟩:=mI h;refine uL ey ?_;refine goW ?_;refine jY ?_;refine goL ?_;refine gX (jK a5 (by omega)) ?_;exact⟨(a5+1),db,(bx++[(qD.mk cm ([]++cn) (jN.mk bn bo bp bq (gF.mk aq ar au) br bt bu bv))]),(b5+1),h,by omega,eJ⟩
    ·have a6:=qC c5;rw [gT a6,gI3.eq_1] at h;refine goX ?_;refine jS 4 rfl rfl ?_;refine jS 5 rfl rfl ?_;refine jS 6 rfl rfl ?_;refine jS 7 rfl rfl ?_;refine jH ?_;obtain rfl:=Option.some.inj h;exact hW8 [.d (.st [.i .i64 ag,.s ah,.s ai,.i .i64 aj,.st [.i .i64 q,.s y,.sl 3 (jJ aa)],.sl 3 (jJ y3),.sl 5 (mD al),.sl 11 (zK a3),.sl 13 (vK bx)])] [b34 pk wh sn sc sd bs es os sk sa evs b4] ⟨rfl,rfl⟩
def gVx:Nat→(List jL)→(List gU)→Int→Int→Int→(List gM)→(List kK)→(List jZ)→Int→Int→(List gN)→Int→jN→Option (jN × Int)
 | 0,_,_,_,_,_,_,_,_,_,_,_,_,_=>none
 | n+1,x0,x1,x2,x3,x4,x5,x6,x7,x8,x9,f,q,y=>gVw (gVx n) x0 x1 x2 x3 x4 x5 x6 x7 x8 x9 f q y
theorem hKd:∀(n:Nat)(x0:List jL)(x1:List gU)(x2:Int)(x3:Int)(x4:Int)(x5:List gM)(x6:List kK)(x7:List jZ)(x8:Int)(x9:Int)(f:List gN)(q:Int)(y:jN){r:jN × Int},gVx n x0 x1 x2 x3 x4 x5 x6 x7 x8 x9 f q y=some r→Go.Eng.Spec Tryz.prog 127 [.ptr 0 0,.d (gBo y)] [b34 x0 x1 x2 x3 x4 x5 x6 x7 x8 x9 f q] (fun sv Lo=>sv=.d (gBo r.1)∧Lo=[b34 x0 x1 x2 x3 x4 x5 x6 x7 x8 x9 f r.2]):=by
 intro n
 induction n with
 | zero=>intro x0 x1 x2 x3 x4 x5 x6 x7 x8 x9 f q y r h;cases h
 | succ n ih=>intro x0 x1 x2 x3 x4 x5 x6 x7 x8 x9 f q y r h;exact hJ9 ih x0 x1 x2 x3 x4 x5 x6 x7 x8 x9 f q y h
end Go.Proofs.YtfjncckelekpiaaGreat
