import Derived.Test.YtfjncckelekpiaaGreatB30
set_option maxHeartbeats 4000000
set_option linter.unusedVariables false
set_option linter.unusedSimpArgs false
set_option linter.unusedSectionVars false
namespace Go.Proofs.YtfjncckelekpiaaGreat
open Go Go.Eng
attribute [local irreducible] V VO VQ VY Quiet QR gW pJ Rng vF uW uI
def yX(a0:gH)(x2:LS)(x3:gH)(x5:LS):List gH→(List kW)→Option (mE × Bool)
 | [],y7=>bnd (bnd (vC a0) fun aj=>
(cnd (!aj) (some true) (cnd ((a0.list.length:Int)==0) (some true) (bnd (gKx (mE.mk x3.atom x5 (wM x2 [97,117,116,111]) (wM x2 [97,115,115,111,99]) y7)) fun ak=>
bnd (gEo 5000 ak a0) fun al=>
some (!al))))) fun am=>
(cnd am (some ((mE.mk [] [] false false []),false)) (some ((mE.mk x3.atom x5 (wM x2 [97,117,116,111]) (wM x2 [97,115,115,111,99]) y7),true)))
 | f::xs,y7=>bnd (uR f 0) fun q=>
bnd (uR f 1) fun an=>
bnd (gT9 an.list) fun y=>
bnd (uR f 2) fun ao=>
bnd (gQc 5000 ao) fun aa=>
(cnd (decide ((f.list.length:Int) > 3)) (
bnd (uR f 3) fun ap=>
bnd (gEr ap) fun ae=>
bnd (uR f 4) fun aq=>
bnd (gIr 5000 aq) fun ag=>
gd (y7.length+[(kW.mk q.atom y aa true ae ag)].length≤4294967296) (
yX a0 x2 x3 x5 xs (y7++[(kW.mk q.atom y aa true ae ag)]))) (
gd (y7.length+[(kW.mk q.atom y aa false [] (gY.mk 0 [] [] 0 (gF.mk 0 [] []) [] []))].length≤4294967296) (
yX a0 x2 x3 x5 xs (y7++[(kW.mk q.atom y aa false [] (gY.mk 0 [] [] 0 (gF.mk 0 [] []) [] []))]))))
def gKy(f:gH):Option (mE × Bool):=
bnd (uR f 3) fun q=>
bnd (gEr q) fun y=>
bnd (uR f 1) fun x3=>
bnd (uR f 2) fun x4=>
bnd (gEr x4) fun x5=>
bnd (gMu f 4) fun x6=>
yX f y x3 x5 x6 []
theorem gV4(a0:gH){r:mE × Bool}(h:gKy a0=some r):gW Tryz.prog 144 [.d (qL a0)] [gF2 r.1,.b r.2]:=by
 obtain⟨aj,ak⟩:=a0;unfold gKy at h;refine SpI Tryz.func144 fun A _=>?_;refine goL ?_;obtain⟨⟨cb,cc⟩,bl,h⟩:=gK h;refine pX (gD (vL _ _ bl)) ?_;obtain⟨x2,bm,h⟩:=gK h;refine pX (gD (gH4 _ bm)) ?_;refine gCj ?_;refine sZ 1 ?_;refine goW ?_;obtain⟨⟨ai,a5⟩,bn,h⟩:=gK h;refine kR (fun _=>gD (vL _ _ bn)) ?_;refine kR (fun _=>gL4) ?_;refine goW ?_;obtain⟨⟨cd,ce⟩,bo,h⟩:=gK h;refine kR (fun _=>gD (vL _ _ bo)) ?_;obtain⟨x5,bp,h⟩:=gK h;refine kR (fun _=>gD (gH4 _ bp)) ?_;refine goW ?_;refine kR (fun _=>gD (gC5 x2 [97,117,116,111])) ?_;refine goW ?_;refine kR (fun _=>gD (gC5 x2 [97,115,115,111,99])) ?_;refine goW ?_;refine jY ?_;refine goL ?_;obtain⟨x6,br,h⟩:=gK h;refine gX (gD (gRu _ _ br)) ?_;refine noB ?_;refine uA 78 16 2 4 rfl rfl (by repeat constructor) (by repeat constructor) (by repeat constructor) (by repeat constructor) ?_;show V _ _ _ _ _;refine gB0 6 (fun cf=>?_);refine kQ (fun(y9:Nat)(y7:List kW)(v8:Nat)=>⟨[(1,.ptr 0 0),(2,.ptr 1 0),(5,.ptr 2 0),(6,.L 2 (kE x6)),(7,.N y9)],[bSx aj ak,.box [.S [],.nilsl,.B false,.B false,.nilsl],.box [.S ai,.L 1 (kD x5),.B (wM x2 [97,117,116,111]),.B (wM x2 [97,115,115,111,99]),.sl 3 v8],.arr 78 16 v8 (gA6 y7)],Tryz.f144.ntmps⟩) (fun y9 y7 v8=>yX (gH.mk aj ak) x2 (gH.mk ai a5) x5 (x6.drop y9) y7=some r) (fun y9 y7 v8=>x6.length - y9) 0 [] 0 eJ h ?_;rintro y9 y7 v8 h;refine goL ?_;refine kN (fun ax=>?_) (fun ax=>?_)
 ·have ah:=qB ax;obtain⟨bt,f,ay⟩:=drop_at ah;rw [ay,yX.eq_2] at h;obtain⟨bu,bv⟩:=bt;refine noS ?_;refine kC (gP ?_);refine sZ 1 ?_;refine goW ?_;refine kR (fun _=>gV y9 (vW f)) ?_;refine goW ?_;obtain⟨⟨q,bw⟩,a6,h⟩:=gK h;refine kR (fun _=>gD (vL _ _ a6)) ?_;refine kR (fun _=>gL4) ?_;refine goW ?_;refine kR (fun _=>gV y9 (vW f)) ?_;refine goW ?_;obtain⟨⟨bx,bz⟩,a7,h⟩:=gK h;refine kR (fun _=>gD (vL _ _ a7)) ?_;refine kR (fun _=>gL4) ?_;obtain⟨aw,a8,h⟩:=gK h;refine kR (fun _=>gD (hFb _ a8)) ?_;refine goW ?_;refine kR (fun _=>gV y9 (vW f)) ?_;refine goW ?_;obtain⟨⟨b0,b1⟩,a9,h⟩:=gK h;refine kR (fun _=>gD (vL _ _ a9)) ?_;obtain⟨⟨y,aa,ab⟩,ba,h⟩:=gK h;refine kR (fun _=>gD (gTn _ _ ba)) ?_;refine goW ?_;refine jY ?_;refine goL ?_;refine gX (gV y9 (vW f)) ?_;refine kN (fun a2=>?_) (fun a2=>?_)
  ·replace h:=jU a2 h;refine goL ?_;refine gX (gV y9 (vW f)) ?_;obtain⟨⟨b2,b3⟩,bb,h⟩:=gK h;refine pX (gD (vL _ _ bb)) ?_;obtain⟨bc,bd,h⟩:=gK h;refine gX (gD (gH4 _ bd)) ?_;refine gX (gV y9 (vW f)) ?_;obtain⟨⟨b4,b5⟩,be,h⟩:=gK h;refine pX (gD (vL _ _ be)) ?_;obtain⟨⟨al,am,an,ao,⟨ac,ad,ae⟩,ap,aq⟩,bf,h⟩:=gK h;refine gX (gD (gU7 _ _ bf)) ?_;refine uN (u:=(.st [.s q,.sl 3 (jJ aw),.st [.i .i64 y,.s aa,.sl 3 (jJ ab)],.b true,.sl 1 (kD bc),.st [.i .i64 al,.s am,.s an,.i .i64 ao,.st [.i .i64 ac,.s ad,.sl 3 (jJ ae)],.sl 9 (vP ap),.sl 11 (gBv aq)]])) ?_;obtain⟨b6,h⟩:=mI h;refine vR b6 ?_;refine goL ?_;refine gX (jK y9 (by omega)) ?_;exact⟨(y9+1),(y7++[(kW.mk q aw (gF.mk y aa ab) true bc (gY.mk al am an ao (gF.mk ac ad ae) ap aq))]),(v8+1),h,by omega,eJ⟩
  ·replace h:=jV a2 h;refine goS ?_;refine uN (u:=(.st [.s q,.sl 3 (jJ aw),.st [.i .i64 y,.s aa,.sl 3 (jJ ab)],.b false,.sl 1 [],.st [.i .i64 0,.s [],.s [],.i .i64 0,.st [.i .i64 0,.s [],.sl 3 []],.sl 9 [],.sl 11 []]])) ?_;obtain⟨b7,h⟩:=mI h;refine vR b7 ?_;refine goL ?_;refine gX (jK y9 (by omega)) ?_;exact⟨(y9+1),(y7++[(kW.mk q aw (gF.mk y aa ab) false [] (gY.mk 0 [] [] 0 (gF.mk 0 [] []) [] []))]),(v8+1),h,by omega,eJ⟩
 ·have ah:=qC ax;rw [gT ah,yX.eq_1] at h;refine noX ?_;refine gCj ?_;refine jS 3 rfl rfl ?_;obtain⟨b8,hb25,h⟩:=gK h;refine qN (P:=Tryz.prog) Mix.h ⟨[(2,.ptr 1 0),(5,.ptr 2 0),(94,.B b8)],[bSx aj ak,.box [.S [],.nilsl,.B false,.B false,.nilsl],.box [.S ai,.L 1 (kD x5),.B (wM x2 [97,117,116,111]),.B (wM x2 [97,115,115,111,99]),.sl 3 v8],.frz 78 16 v8 (gA6 y7)],Tryz.f144.ntmps⟩ (by kernel_rfl) ?_ ?_
  ·refine goL ?_;obtain⟨cg,bg,hb25⟩:=gK hb25;refine wC (gD (gAj _ bg)) ?_;refine goL ?_;refine qE 82 (fun a3=>?_) (fun a3=>?_)
   ·replace hb25:=jU a3 hb25;refine goL ?_;cases hb25;exact eJ
   ·replace hb25:=jV a3 hb25;refine goL ?_;refine qE 88 (fun a4=>?_) (fun a4=>?_)
    ·replace hb25:=jU a4 hb25;refine goL ?_;cases hb25;exact eJ
    ·replace hb25:=jV a4 hb25;refine goL ?_;obtain⟨⟨b9,ca⟩,bh,hb25⟩:=gK hb25;refine hIa (hDc (gVy (mE.mk ai x5 (wM x2 [97,117,116,111]) (wM x2 [97,115,115,111,99]) y7) bh)) ?_;refine goL ?_;obtain⟨ch,bi,hb25⟩:=gK hb25;refine wN (gD (gJ8 _ _ _ bi)) ?_;refine goL ?_;cases hb25;exact eJ
  refine goC h ?_ ?_<;>intro ci h
  ·refine goL ?_;refine uX (jI TBd.h TZ.h rfl (by repeat constructor)) ?_;exact goR h
  ·refine goS ?_;refine jH ?_;cases h;exact mM
def wH(f:jL):Option (Bool):=
bnd (gPs f) fun q=>
bnd (cnd (!(pF f.name)) (some true) (bnd (zY f.deps 5) fun x4=>
cnd (!x4) (some true) (cnd (wM f.deps f.name) (some true) (some (decide ((IntKind.i64.wrap ((IntKind.i64.wrap ((IntKind.i64.wrap ((f.traits.length:Int)+(f.dataTypes.length:Int)))+(f.instances.length:Int)))+(f.functions.length:Int))) > 24)))))) fun b2=>
(cnd b2 (some false) (
bnd (vD q.1) fun x8=>
bnd (cnd x8 (bnd (vD q.2.1) fun y=>
(cnd y (bnd (vD q.2.2.1) fun aa=>
(cnd aa (bnd (vD q.2.2.2) fun ab=>
(cnd ab (bnd (gSt f) fun ac=>
some ac) (some false))) (some false))) (some false))) (some false)) fun b9=>
some b9))
theorem gMq(a0:jL){r:Bool}(h:wH a0=some r):gW Tryz.prog 96 [.d (gHd a0)] [.b r]:=by
 obtain⟨f,q,y,aa,ab,ac⟩:=a0;unfold wH at h;refine SpI Tryz.func96 fun A _=>?_;refine goL ?_;obtain⟨⟨ad,ae,ag,ah⟩,an,h⟩:=gK h;refine gX (gD (gX7 _ an)) ?_;refine gX (gD (uB f)) ?_;obtain⟨b2,hb2,h⟩:=gK h;refine kG ⟨[(1,.ptr 0 0),(3,.L 1 (kD ad)),(4,.L 1 (kD ae)),(5,.L 1 (kD ag)),(6,.L 1 (kD ah)),(48,.B b2)],[bPk f q y aa ab ac],Tryz.f96.ntmps⟩ ?_ ?_
 ·refine gqO 18 hb2 (fun c3 hb2=>?_);obtain⟨x4,ao,hb2⟩:=gK hb2;refine gX (gD (gBs _ _ ao)) ?_;refine gqO 24 hb2 (fun c5 hb2=>?_);refine gX (gD (gC5 q f)) ?_;refine gqO 31 hb2 (fun c6 hb2=>?_);refine gX (pR) ?_;refine gRx ?_;refine gX (pR) ?_;refine gRx ?_;refine gX (pR) ?_;cases hb2;exact eJ
 refine goC h ?_ ?_<;>intro c7 h
 ·exact goR h
 ·refine goS ?_;obtain⟨x8,ap,h⟩:=gK h;refine gX (gD (wO _ ap)) ?_;obtain⟨b9,hb9,h⟩:=gK h;refine kG ⟨[(2,.B b9)],[bPk f q y aa ab ac],Tryz.f96.ntmps⟩ ?_ ?_
  ·refine gqA 51 hb9 (fun au hb9=>?_);obtain⟨av,ai,hb9⟩:=gK hb9;refine gX (gD (wO _ ai)) ?_;refine gqA 55 hb9 (fun aw hb9=>?_);obtain⟨ax,aj,hb9⟩:=gK hb9;refine gX (gD (wO _ aj)) ?_;refine gqA 59 hb9 (fun ay hb9=>?_);obtain⟨a2,ak,hb9⟩:=gK hb9;refine gX (gD (wO _ ak)) ?_;refine gqA 63 hb9 (fun a3 hb9=>?_);obtain⟨a4,al,hb9⟩:=gK hb9;refine gX (gD (hHm _ al)) ?_;cases hb9;exact eJ
  exact goR h
def gFl(a0:gG)(a1:Int):List kF→(List mF)→Option (List mF)
 | [],f=>(some f)
 | q::xs,f=>bnd (gHx a0 a1 q) fun y=>
bnd (gLx y a1 [102,110] q.name f) fun aa=>
gFl a0 a1 xs aa
def gFm(y:gG)(a1:Int)(x1:jL):List jF→(List mF)→Option (List mF)
 | [],f=>gFl y a1 x1.functions f
 | q::xs,f=>bnd (gFz y a1 q) fun aa=>
bnd (gLx aa a1 [105,110,115,116] q.trait f) fun ab=>
gFm y a1 x1 xs ab
def gFn(y:gG)(a1:Int)(x1:jL):List jW→(List mF)→Option (List mF)
 | [],f=>gFm y a1 x1 x1.instances f
 | q::xs,f=>bnd (gCd y a1 q) fun ab=>
bnd (gLx ab a1 [100,97,116,97] q.name f) fun ac=>
gFn y a1 x1 xs ac
def gFo(f:gG)(a1:Int)(q:jL):List mE→(List mF)→Option (List mF)
 | [],y=>gFn f a1 q q.dataTypes y
 | x7::xs,y=>bnd (gEz f a1 x7) fun x8=>
bnd (gLx x8 a1 [116,114,97,105,116] x7.name y) fun x9=>
gFo f a1 q xs x9
def gNc(f:gG)(a1:Int):Option (List mF):=
bnd (at? f.packages a1) fun q=>
gFo f a1 q q.traits []
theorem hPo(a0:gG)(a1:Int){r:List mF}(h:gNc a0 a1=some r):gW Tryz.prog 64 [.d (jX a0),.I a1] [.sl 4 (vM r)]:=by
 obtain⟨ab⟩:=a0;unfold gNc at h;refine SpI Tryz.func64 fun A _=>?_;refine goL ?_;refine qO ?_;refine goL ?_;obtain⟨x1,ay,h⟩:=gK h;obtain⟨bk,ay⟩:=yY ay;obtain⟨ac,ad,f,q,y,aa⟩:=x1;refine gX (kY bk (mX ay)) ?_;refine noB ?_;refine pG 2 2 (fun z5=>?_);refine kQ (fun(y4:Nat)(y2:List mF)(v3:Nat)=>⟨[(1,.I a1),(2,.ptr 0 0),(5,.sl 1 v3),(6,.ptr 2 0),(7,.N y4)],[bPr ab,.arr 153 4 v3 (vM y2),bPk ac ad f q y aa],Tryz.f64.ntmps⟩) (fun y4 y2 v3=>gFo (gG.mk ab) a1 (jL.mk ac ad f q y aa) (f.drop y4) y2=some r) (fun y4 y2 v3=>f.length - y4) 0 [] 0 eJ h ?_;rintro y4 y2 v3 h;refine goL ?_;refine kN (fun c6=>?_) (fun c6=>?_)
 ·have al:=qB c6;obtain⟨x7,bl,bm⟩:=drop_at al;rw [bm,gFo.eq_2] at h;obtain⟨bn,cy,cz,c0,c1⟩:=x7;refine noS ?_;refine kC (gP ?_);refine gMh (P:=Tryz.prog) Mix.h [(0,true),(1,true),(2,true),(3,true),(4,true),(5,true),(6,true),(7,true),(8,true),(9,true),(10,true),(11,true),(12,true),(13,true),(14,true),(15,true),(16,false),(17,true)] (by kernel_rfl) ?_;refine goY ?_;refine zL rfl (gV y4 (gLc bl)) ?_;refine goY ?_;obtain⟨x8,cg,h⟩:=gK h;refine zL rfl (gD (gXr _ _ _ cg)) ?_;refine goY ?_;refine zL rfl (gV y4 (gLc bl)) ?_;refine goY ?_;obtain⟨x9,ch,h⟩:=gK h;refine gWz [1] (gUg x8 a1 [116,114,97,105,116] bn y2 v3 ch) ?_;rintro _ _ ⟨a4,rfl,rfl⟩;refine gTs (sv:=.sl 1 a4) (L':=[bPr ab,.arr 153 4 a4 (vM x9),bPk ac ad f q y aa]) (by repeat(first | exact gDf.nil | (apply gDf.keep;focus ((repeat constructor);done)) | (apply gDf.dep;focus kernel_rfl))) ?_;refine goY ?_;refine gD5 ?_;refine goL ?_;refine gX (jK y4 (by omega)) ?_;exact⟨(y4+1),x9,a4,h,by omega,eJ⟩
 ·have al:=qC c6;rw [gT al,gFo.eq_1] at h;refine goX ?_;refine noB ?_;refine pG 2 3 (fun c7=>?_);refine kQ (fun(ae:Nat)(am:List mF)(an:Nat)=>⟨[(1,.I a1),(2,.ptr 0 0),(5,.sl 1 an),(6,.ptr 2 0),(8,.N ae)],[bPr ab,.arr 153 4 an (vM am),bPk ac ad f q y aa],Tryz.f64.ntmps⟩) (fun ae am an=>gFn (gG.mk ab) a1 (jL.mk ac ad f q y aa) (q.drop ae) am=some r) (fun ae am an=>q.length - ae) 0 y2 v3 eJ h ?_;rintro ae am an h;refine goL ?_;refine kN (fun a5=>?_) (fun a5=>?_)
  ·have ai:=qB a5;obtain⟨ci,av,a6⟩:=drop_at ai;rw [a6,gFn.eq_2] at h;obtain⟨a7,cj,ck⟩:=ci;refine noS ?_;refine kC (gP ?_);refine gMh (P:=Tryz.prog) Mix.h [(0,true),(1,true),(2,true),(3,true),(4,true),(5,true),(6,true),(7,true),(8,true),(9,true),(10,true),(11,true),(12,true),(13,true),(14,true),(15,true),(16,false),(17,true)] (by kernel_rfl) ?_;refine goY ?_;refine zL rfl (gV ae (gHc av)) ?_;refine goY ?_;obtain⟨cl,bo,h⟩:=gK h;refine zL rfl (gD (gZb _ _ _ bo)) ?_;refine goY ?_;refine zL rfl (gV ae (gHc av)) ?_;refine goY ?_;obtain⟨bp,bq,h⟩:=gK h;refine gWz [1] (gUg cl a1 [100,97,116,97] a7 am an bq) ?_;rintro _ _ ⟨a8,rfl,rfl⟩;refine gTs (sv:=.sl 1 a8) (L':=[bPr ab,.arr 153 4 a8 (vM bp),bPk ac ad f q y aa]) (by repeat(first | exact gDf.nil | (apply gDf.keep;focus ((repeat constructor);done)) | (apply gDf.dep;focus kernel_rfl))) ?_;refine goY ?_;refine gD5 ?_;refine goL ?_;refine gX (jK ae (by omega)) ?_;exact⟨(ae+1),bp,a8,h,by omega,eJ⟩
  ·have ai:=qC a5;rw [gT ai,gFn.eq_1] at h;refine goX ?_;refine noB ?_;refine pG 2 4 (fun c8=>?_);refine kQ (fun(ag:Nat)(ao:List mF)(ap:Nat)=>⟨[(1,.I a1),(2,.ptr 0 0),(5,.sl 1 ap),(6,.ptr 2 0),(9,.N ag)],[bPr ab,.arr 153 4 ap (vM ao),bPk ac ad f q y aa],Tryz.f64.ntmps⟩) (fun ag ao ap=>gFm (gG.mk ab) a1 (jL.mk ac ad f q y aa) (y.drop ag) ao=some r) (fun ag ao ap=>y.length - ag) 0 am an eJ h ?_;rintro ag ao ap h;refine goL ?_;refine kN (fun a9=>?_) (fun a9=>?_)
   ·have aj:=qB a9;obtain⟨cm,aw,ba⟩:=drop_at aj;rw [ba,gFm.eq_2] at h;obtain⟨bb,cn,⟨br,bt,bu⟩,co,cp,cq,⟨bv,bw,bx⟩,cr⟩:=cm;refine noS ?_;refine kC (gP ?_);refine gMh (P:=Tryz.prog) Mix.h [(0,true),(1,true),(2,true),(3,true),(4,true),(5,true),(6,true),(7,true),(8,true),(9,true),(10,true),(11,true),(12,true),(13,true),(14,true),(15,true),(16,false),(17,true)] (by kernel_rfl) ?_;refine goY ?_;refine zL rfl (gV ag (gFf aw)) ?_;refine goY ?_;obtain⟨cs,bz,h⟩:=gK h;refine zL rfl (gD (gZc _ _ _ bz)) ?_;refine goY ?_;refine zL rfl (gV ag (gFf aw)) ?_;refine goY ?_;obtain⟨b0,b1,h⟩:=gK h;refine gWz [1] (gUg cs a1 [105,110,115,116] bb ao ap b1) ?_;rintro _ _ ⟨bc,rfl,rfl⟩;refine gTs (sv:=.sl 1 bc) (L':=[bPr ab,.arr 153 4 bc (vM b0),bPk ac ad f q y aa]) (by repeat(first | exact gDf.nil | (apply gDf.keep;focus ((repeat constructor);done)) | (apply gDf.dep;focus kernel_rfl))) ?_;refine goY ?_;refine gD5 ?_;refine goL ?_;refine gX (jK ag (by omega)) ?_;exact⟨(ag+1),b0,bc,h,by omega,eJ⟩
   ·have aj:=qC a9;rw [gT aj,gFm.eq_1] at h;refine goX ?_;refine noB ?_;refine pG 2 5 (fun c9=>?_);refine kQ (fun(ah:Nat)(aq:List mF)(ar:Nat)=>⟨[(1,.I a1),(2,.ptr 0 0),(5,.sl 1 ar),(6,.ptr 2 0),(10,.N ah)],[bPr ab,.arr 153 4 ar (vM aq),bPk ac ad f q y aa],Tryz.f64.ntmps⟩) (fun ah aq ar=>gFl (gG.mk ab) a1 (aa.drop ah) aq=some r) (fun ah aq ar=>aa.length - ah) 0 ao ap eJ h ?_;rintro ah aq ar h;refine goL ?_;refine kN (fun bd=>?_) (fun bd=>?_)
    ·have ak:=qB bd;obtain⟨ct,ax,be⟩:=drop_at ak;rw [be,gFl.eq_2] at h;obtain⟨bf,cu,cv,cw,⟨b2,b3,b4⟩,⟨b5,b6,b7,b8,⟨bg,bh,bi⟩,b9,ca⟩⟩:=ct;refine noS ?_;refine kC (gP ?_);refine gMh (P:=Tryz.prog) Mix.h [(0,true),(1,true),(2,true),(3,true),(4,true),(5,true),(6,true),(7,true),(8,true),(9,true),(10,true),(11,true),(12,true),(13,true),(14,true),(15,true),(16,false),(17,true)] (by kernel_rfl) ?_;refine goY ?_;refine zL rfl (gV ah (gLd ax)) ?_;refine goY ?_;obtain⟨cx,cb,h⟩:=gK h;refine zL rfl (gD (hDo _ _ _ cb)) ?_;refine goY ?_;refine zL rfl (gV ah (gLd ax)) ?_;refine goY ?_;obtain⟨cc,cd,h⟩:=gK h;refine gWz [1] (gUg cx a1 [102,110] bf aq ar cd) ?_;rintro _ _ ⟨bj,rfl,rfl⟩;refine gTs (sv:=.sl 1 bj) (L':=[bPr ab,.arr 153 4 bj (vM cc),bPk ac ad f q y aa]) (by repeat(first | exact gDf.nil | (apply gDf.keep;focus ((repeat constructor);done)) | (apply gDf.dep;focus kernel_rfl))) ?_;refine goY ?_;refine gD5 ?_;refine goL ?_;refine gX (jK ah (by omega)) ?_;exact⟨(ah+1),cc,bj,h,by omega,eJ⟩
    ·have ak:=qC bd;rw [gT ak,gFl.eq_1] at h;refine goX ?_;refine jS 1 rfl rfl ?_;refine jH ?_;cases h;exact mM
def gHy(f:gG)(a1:List gU)(q:gB):Option (gB):=
bnd (hDp f a1 q) fun y=>
bnd (gKh y) fun x2=>
(some x2)
theorem gSu(f:gG)(a1:List gU)(q:gB){r:gB}(h:gHy f a1 q=some r):gW Tryz.prog 76 [.d (jX f),.L 4 (kM a1),.d (jR q)] [jR r]:=by
 obtain⟨ab⟩:=f;obtain⟨ac,ad,ae,ag,ah,ai,aj,ak⟩:=q;unfold gHy at h;refine SpI Tryz.func76 fun A _=>?_;refine goL ?_;obtain⟨⟨al,am,an,ao,ap,aq,ar,au⟩,y,h⟩:=gK h;refine pX (gD (hBo _ _ _ y)) ?_;obtain⟨⟨av,aw,ax,ay,a3,a4,a5,a6⟩,aa,h⟩:=gK h;refine pX (gD (gP0 _ aa)) ?_;exact goR h
end Go.Proofs.YtfjncckelekpiaaGreat
