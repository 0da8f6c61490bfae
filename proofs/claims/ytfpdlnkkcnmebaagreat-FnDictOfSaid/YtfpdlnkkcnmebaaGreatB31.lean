import Derived.Test.YtfpdlnkkcnmebaaGreatB25
import Derived.Test.YtfpdlnkkcnmebaaGreatP5
set_option maxHeartbeats 4000000
set_option linter.unusedVariables false
set_option linter.unusedSimpArgs false
set_option linter.unusedSectionVars false
namespace Go.Proofs.YtfpdlnkkcnmebaaGreat
open Go Go.Eng
attribute [local irreducible] V VO VQ VY Quiet QR jI mK Rng qE qA pX
def yD(a0:gF)(x2:LS)(x3:gF)(x5:LS):List gF→(List jT)→Option (pM × Bool)
 | [],y7=>bnd (bnd (uY a0) fun ai=>
(cnd (!ai) ((some true)) ((cnd ((a0.list.length:Int)==0) ((some true)) (bnd (gG9 (pM.mk x3.atom x5 (yV x2 [97,117,116,111]) (yV x2 [97,115,115,111,99]) y7)) fun aj=>
bnd (gCx 5000 aj a0) fun ak=>
(some (!ak))))))) fun al=>
(cnd al (
(some ((pM.mk [] [] false false []),false))) (
(some ((pM.mk x3.atom x5 (yV x2 [97,117,116,111]) (yV x2 [97,115,115,111,99]) y7),true))))
 | f::xs,y7=>bnd (uT f 0) fun h=>
bnd (uT f 1) fun am=>
bnd (gPk am.list) fun q=>
bnd (uT f 2) fun an=>
bnd (gMn 5000 an) fun y=>
(cnd (decide ((f.list.length:Int) > 3)) (
bnd (uT f 3) fun ao=>
bnd (gCy ao) fun ad=>
bnd (uT f 4) fun ap=>
bnd (gF2 5000 ap) fun ae=>
gd (y7.length+[(jT.mk h.atom q y true ad ae)].length≤4294967296) (
yD a0 x2 x3 x5 xs (y7++[(jT.mk h.atom q y true ad ae)]))) (
gd (y7.length+[(jT.mk h.atom q y false [] (gY.mk 0 [] [] 0 (gB.mk 0 [] []) [] []))].length≤4294967296) (
yD a0 x2 x3 x5 xs (y7++[(jT.mk h.atom q y false [] (gY.mk 0 [] [] 0 (gB.mk 0 [] []) [] []))]))))
def gHa(f:gF):Option (pM × Bool):=
bnd (uT f 3) fun h=>
bnd (gCy h) fun q=>
bnd (uT f 1) fun y=>
bnd (uT f 2) fun x4=>
bnd (gCy x4) fun x5=>
bnd (gI7 f 4) fun x6=>
yD f q y x5 x6 []
theorem gQm(a0:gF){r:pM × Bool}(h:gHa a0=some r):jI Tryz.prog 187 [.d (qJ a0)] [gLb r.1,.b r.2]:=by
 obtain⟨aj,ak⟩:=a0;unfold gHa at h;refine SpI Tryz.func187 fun A _=>?_;refine goL ?_;obtain⟨⟨cc,cd⟩,bm,h⟩:=gJ h;refine uN (gI (vE _ _ bm)) ?_;obtain⟨x2,bn,h⟩:=gJ h;refine uN (gI (gE9 _ bn)) ?_;refine gIb ?_;refine jS (P:=Tryz.prog) Mix.h [(0,true),(1,true),(2,true),(3,true),(4,true),(5,true),(6,true),(7,true),(8,true),(9,true),(10,true),(11,false),(12,false)] (by kernel_rfl) ?_;refine goY ?_;obtain⟨⟨ai,a6⟩,bo,h⟩:=gJ h;refine jW rfl (gI (vE _ _ bo)) ?_;refine jW rfl (gIc) ?_;refine goY ?_;obtain⟨⟨ce,cf⟩,bp,h⟩:=gJ h;refine jW rfl (gI (vE _ _ bp)) ?_;obtain⟨x5,bq,h⟩:=gJ h;refine jW rfl (gI (gE9 _ bq)) ?_;refine goY ?_;refine jW rfl (gI (gGl x2 [97,117,116,111])) ?_;refine goY ?_;refine jW rfl (gI (gGl x2 [97,115,115,111,99])) ?_;refine goY ?_;refine mJ ?_;refine goL ?_;obtain⟨x6,bt,h⟩:=gJ h;refine jP (gI (gNj _ _ bt)) ?_;refine noB ?_;refine qZ 108 16 2 4 rfl rfl (by repeat constructor) (by repeat constructor) (by repeat constructor) (by repeat constructor) ?_;show V _ _ _ _ _;refine gCw 6 (fun cg=>?_);refine mG (fun(y9:Nat)(y7:List jT)(v8:Nat)=>⟨[(1,.ptr 0 0),(2,.ptr 1 0),(5,.ptr 2 0),(6,.L 2 (jB x6)),(7,.N y9)],[bSx aj ak,.box [.S [],.nilsl,.B false,.B false,.nilsl],.box [.S ai,.L 1 (gT x5),.B (yV x2 [97,117,116,111]),.B (yV x2 [97,115,115,111,99]),.sl 3 v8],.arr 108 16 v8 (kM y7)],Tryz.f187.ntmps⟩) (fun y9 y7 v8=>yD (gF.mk aj ak) x2 (gF.mk ai a6) x5 (x6.drop y9) y7=some r) (fun y9 y7 v8=>x6.length - y9) 0 [] 0 eJ h ?_;rintro y9 y7 v8 h;refine goL ?_;refine mR (fun ax=>?_) (fun ax=>?_)
 ·have ah:=vR ax;obtain⟨bu,f,ay⟩:=drop_at ah;rw [ay,yD.eq_2] at h;obtain⟨bv,bw⟩:=bu;refine noS ?_;refine kI (jA ?_);refine jS (P:=Tryz.prog) Mix.h [(0,true),(1,true),(2,true),(3,true),(4,true),(5,true),(6,true),(7,true),(8,true),(9,true),(10,true),(11,true),(12,true),(13,true),(14,true),(15,true),(16,true),(17,true),(18,true),(19,true),(20,false),(21,false)] (by kernel_rfl) ?_;refine goY ?_;refine jW rfl (jR y9 (vH f)) ?_;refine goY ?_;obtain⟨⟨q,bx⟩,a7,h⟩:=gJ h;refine jW rfl (gI (vE _ _ a7)) ?_;refine jW rfl (gIc) ?_;refine goY ?_;refine jW rfl (jR y9 (vH f)) ?_;refine goY ?_;obtain⟨⟨bz,b0⟩,a8,h⟩:=gJ h;refine jW rfl (gI (vE _ _ a8)) ?_;refine jW rfl (gIc) ?_;obtain⟨aw,a9,h⟩:=gJ h;refine jW rfl (gI (gYq _ a9)) ?_;refine goY ?_;refine jW rfl (jR y9 (vH f)) ?_;refine goY ?_;obtain⟨⟨b1,b2⟩,ba,h⟩:=gJ h;refine jW rfl (gI (vE _ _ ba)) ?_;obtain⟨⟨y,aa,ab⟩,bb,h⟩:=gJ h;refine jW rfl (gI (gO3 _ _ bb)) ?_;refine goY ?_;refine mJ ?_;refine goL ?_;refine jP (jR y9 (vH f)) ?_;refine mR (fun a3=>?_) (fun a3=>?_)
  ·replace h:=kU a3 h;refine goL ?_;refine jP (jR y9 (vH f)) ?_;obtain⟨⟨b3,b4⟩,bc,h⟩:=gJ h;refine uN (gI (vE _ _ bc)) ?_;obtain⟨bd,be,h⟩:=gJ h;refine jP (gI (gE9 _ be)) ?_;refine jP (jR y9 (vH f)) ?_;obtain⟨⟨b5,b6⟩,bf,h⟩:=gJ h;refine uN (gI (vE _ _ bf)) ?_;obtain⟨⟨al,am,an,ao,⟨ac,ad,ae⟩,ap,aq⟩,bg,h⟩:=gJ h;refine jP (gI (gQr _ _ bg)) ?_;refine uO (u:=(.st [.s q,.sl 3 (gN aw),.st [.i .i64 y,.s aa,.sl 3 (gN ab)],.b true,.sl 1 (gT bd),.st [.i .i64 al,.s am,.s an,.i .i64 ao,.st [.i .i64 ac,.s ad,.sl 3 (gN ae)],.sl 9 (kQ ap),.sl 11 (uZ aq)]])) ?_;obtain⟨b7,h⟩:=pU h;refine gAd b7 ?_;refine goL ?_;refine jP (kD y9 (by omega)) ?_;exact⟨(y9+1),(y7++[(jT.mk q aw (gB.mk y aa ab) true bd (gY.mk al am an ao (gB.mk ac ad ae) ap aq))]),(v8+1),h,by omega,eJ⟩
  ·replace h:=kV a3 h;refine goS ?_;refine uO (u:=(.st [.s q,.sl 3 (gN aw),.st [.i .i64 y,.s aa,.sl 3 (gN ab)],.b false,.sl 1 [],.st [.i .i64 0,.s [],.s [],.i .i64 0,.st [.i .i64 0,.s [],.sl 3 []],.sl 9 [],.sl 11 []]])) ?_;obtain⟨b8,h⟩:=pU h;refine gAd b8 ?_;refine goL ?_;refine jP (kD y9 (by omega)) ?_;exact⟨(y9+1),(y7++[(jT.mk q aw (gB.mk y aa ab) false [] (gY.mk 0 [] [] 0 (gB.mk 0 [] []) [] []))]),(v8+1),h,by omega,eJ⟩
 ·have ah:=vS ax;rw [jK ah,yD.eq_1] at h;refine noX ?_;refine gIb ?_;refine gV 3 rfl rfl ?_;obtain⟨b9,hb25,h⟩:=gJ h;refine wG (P:=Tryz.prog) Mix.h ⟨[(2,.ptr 1 0),(5,.ptr 2 0),(94,.B b9)],[bSx aj ak,.box [.S [],.nilsl,.B false,.B false,.nilsl],.box [.S ai,.L 1 (gT x5),.B (yV x2 [97,117,116,111]),.B (yV x2 [97,115,115,111,99]),.sl 3 v8],.frz 108 16 v8 (kM y7)],Tryz.f187.ntmps⟩ (by kernel_rfl) ?_ ?_
  ·refine goL ?_;obtain⟨ch,bh,hb25⟩:=gJ hb25;refine gDi (gI (zQ _ bh)) ?_;refine goL ?_;refine gAl 82 (fun a4=>?_) (fun a4=>?_)
   ·replace hb25:=kU a4 hb25;refine goL ?_;cases hb25;exact eJ
   ·replace hb25:=kV a4 hb25;refine goL ?_;refine gAl 88 (fun a5=>?_) (fun a5=>?_)
    ·replace hb25:=kU a5 hb25;refine goL ?_;cases hb25;exact eJ
    ·replace hb25:=kV a5 hb25;refine goL ?_;obtain⟨⟨ca,cb⟩,bi,hb25⟩:=gJ hb25;refine hIg (gRe (gQl (pM.mk ai x5 (yV x2 [97,117,116,111]) (yV x2 [97,115,115,111,99]) y7) bi)) ?_;refine goL ?_;obtain⟨ci,bj,hb25⟩:=gJ hb25;refine gGh (gI (gGp _ _ _ bj)) ?_;refine goL ?_;cases hb25;exact eJ
  refine goC h ?_ ?_<;>intro cj h
  ·refine goL ?_;refine vP (jN TBd.h TZ.h rfl (by repeat constructor)) ?_;exact goR h
  ·refine goS ?_;refine jF ?_;cases h;exact uM
def gE8(f:jZ):Option (Bool):=
bnd (gO0 f) fun h=>
bnd ((cnd (!(pF f.name)) ((some true)) (bnd (zJ f.deps 5) fun x4=>
(cnd (!x4) ((some true)) ((cnd (yV f.deps f.name) ((some true)) ((some (decide ((IntKind.i64.wrap ((IntKind.i64.wrap ((IntKind.i64.wrap ((f.traits.length:Int)+(f.dataTypes.length:Int)))+(f.instances.length:Int)))+(f.functions.length:Int))) > 24)))))))))) fun b2=>
(cnd b2 (
(some false)) (
bnd (zC h.1) fun x8=>
bnd ((cnd x8 (bnd (zC h.2.1) fun q=>
(cnd q (bnd (zC h.2.2.1) fun y=>
(cnd y (bnd (zC h.2.2.2) fun aa=>
(cnd aa (bnd (gOi f) fun ab=>
(some ab)) ((some false)))) ((some false)))) ((some false)))) ((some false)))) fun b9=>
(some b9)))
theorem gOj(a0:jZ){r:Bool}(h:gE8 a0=some r):jI Tryz.prog 179 [.d (gEv a0)] [.b r]:=by
 obtain⟨f,q,y,aa,ab,ac⟩:=a0;unfold gE8 at h;refine SpI Tryz.func179 fun A _=>?_;refine goL ?_;obtain⟨⟨ad,ae,ag,ah⟩,an,h⟩:=gJ h;refine jP (gI (hBi _ an)) ?_;refine jP (gI (uH f)) ?_;obtain⟨b2,hb2,h⟩:=gJ h;refine kH ⟨[(1,.ptr 0 0),(3,.L 1 (gT ad)),(4,.L 1 (gT ae)),(5,.L 1 (gT ag)),(6,.L 1 (gT ah)),(48,.B b2)],[bPk f q y aa ab ac],Tryz.f179.ntmps⟩ ?_ ?_
 ·refine gqO 18 hb2 (fun c3 hb2=>?_);obtain⟨x4,ao,hb2⟩:=gJ hb2;refine jP (gI (gAy _ _ ao)) ?_;refine gqO 24 hb2 (fun c5 hb2=>?_);refine jP (gI (gGl q f)) ?_;refine gqO 31 hb2 (fun c6 hb2=>?_);refine jP (pV) ?_;refine gRd ?_;refine jP (pV) ?_;refine gRd ?_;refine jP (pV) ?_;cases hb2;exact eJ
 refine goC h ?_ ?_<;>intro c7 h
 ·exact goR h
 ·refine goS ?_;obtain⟨x8,ap,h⟩:=gJ h;refine jP (gI (gBx _ ap)) ?_;obtain⟨b9,hb9,h⟩:=gJ h;refine kH ⟨[(2,.B b9)],[bPk f q y aa ab ac],Tryz.f179.ntmps⟩ ?_ ?_
  ·refine gqA 51 hb9 (fun au hb9=>?_);obtain⟨av,ai,hb9⟩:=gJ hb9;refine jP (gI (gBx _ ai)) ?_;refine gqA 55 hb9 (fun aw hb9=>?_);obtain⟨ax,aj,hb9⟩:=gJ hb9;refine jP (gI (gBx _ aj)) ?_;refine gqA 59 hb9 (fun ay hb9=>?_);obtain⟨a3,ak,hb9⟩:=gJ hb9;refine jP (gI (gBx _ ak)) ?_;refine gqA 63 hb9 (fun a4 hb9=>?_);obtain⟨a5,al,hb9⟩:=gJ hb9;refine jP (gI (hAd _ al)) ?_;cases hb9;exact eJ
  exact goR h
def gQn(nm:LB)(deps:LS)(x:gF)(h:List pM)(q:List kG)(y:List jD)(l4:List kX):Option (Bool × List pM × List kG × List jD × List kX):=
bnd (uT x 0) fun x1=>
(cnd (x1.atom==[116,114,97,105,116]) (
bnd (gHa x) fun x3=>
gd (h.length+[x3.1].length≤4294967296) (
(some (x3.2,(h++[x3.1]),q,y,l4)))) (
(cnd (x1.atom==[100,97,116,97]) (
bnd (gEg x) fun x6=>
gd (q.length+[x6.1].length≤4294967296) (
(some (x6.2,h,(q++[x6.1]),y,l4)))) (
(cnd (x1.atom==[105,110,115,116]) (
bnd (gEj x) fun x9=>
gd (y.length+[x9.1].length≤4294967296) (
(some (x9.2,h,q,(y++[x9.1]),l4)))) (
(cnd (x1.atom==[102,110]) (
bnd (gEk x) fun f=>
gd (l4.length+[f.1].length≤4294967296) (
(some (f.2,h,q,y,(l4++[f.1]))))) (
(some (false,h,q,y,l4))))))))))
theorem hCa(nm:LB)(deps:LS)(x:gF)(l1:List pM)(l2:List kG)(l3:List jD)(l4:List kX)(v1:Nat)(v2:Nat)(v3:Nat)(v4:Nat){r:Bool × List pM × List kG × List jD × List kX}(h:gQn nm deps x l1 l2 l3 l4=some r):Go.Eng.Spec Tryz.prog 178 [.ptr 0 0,.d (qJ x)] [.box [.S nm,.L 1 (gT deps),.sl 1 v1,.sl 2 v2,.sl 3 v3,.sl 4 v4],.arr 46 5 v1 (yM l1),.arr 171 3 v2 (qK l2),.arr 41 12 v3 (qL l3),.arr 176 16 v4 (qM l4)] (fun sv Lo=>∃v'1 v'2 v'3 v'4,sv=.B r.1∧Lo=[.box [.S nm,.L 1 (gT deps),.sl 1 v'1,.sl 2 v'2,.sl 3 v'3,.sl 4 v'4],.arr 46 5 v'1 (yM r.2.1),.arr 171 3 v'2 (qK r.2.2.1),.arr 41 12 v'3 (qL r.2.2.2.1),.arr 176 16 v'4 (qM r.2.2.2.2)]):=by
 obtain⟨bm,bn⟩:=x;unfold gQn at h;refine kJ 5 Tryz.func178 rfl (by kernel_rfl) rfl rfl fun A _=>?_;refine goL ?_;obtain⟨⟨b0,b1⟩,bo,h⟩:=gJ h;refine uN (gI (vE _ _ bo)) ?_;refine jP (gIc) ?_;refine jA ?_;refine goC h ?_ ?_<;>intro c2 h
 ·refine goL ?_;obtain⟨⟨⟨aw,ax,ay,a0,a3⟩,bi⟩,bp,h⟩:=gJ h;refine uN (gI (gQm _ bp)) ?_;refine gIb ?_;refine jS (P:=Tryz.prog) Mix.h [(0,true),(1,true),(2,true),(3,true),(4,true),(5,true),(6,false),(7,false),(8,true),(9,true),(10,false)] (by kernel_rfl) ?_;refine goY ?_;refine kT (T:=86) (us:=yM [(pM.mk aw ax ay a0 a3)]) ?_;obtain⟨g4,h⟩:=pU h;refine kN (T:=86) g4 ?_;refine goY ?_;refine mJ ?_;refine goL ?_;refine jF ?_;obtain rfl:=Option.some.inj h;exact gAg [.B bi] _ ⟨(v1+1),v2,v3,v4,rfl,rfl⟩
 ·refine goC h ?_ ?_<;>intro c5 h
  ·refine goL ?_;obtain⟨⟨⟨a4,a5,a6⟩,bj⟩,bq,h⟩:=gJ h;refine uN (gI (gNd _ bq)) ?_;refine gIb ?_;refine jS (P:=Tryz.prog) Mix.h [(0,true),(1,true),(2,true),(3,true),(4,true),(5,true),(6,false),(7,false),(8,true),(9,true),(10,false)] (by kernel_rfl) ?_;refine goY ?_;refine kT (T:=87) (us:=qK [(kG.mk a4 a5 a6)]) ?_;obtain⟨g7,h⟩:=pU h;refine kN (T:=87) g7 ?_;refine goY ?_;refine mJ ?_;refine goL ?_;refine jF ?_;obtain rfl:=Option.some.inj h;exact gAg [.B bj] _ ⟨v1,(v2+1),v3,v4,rfl,rfl⟩
  ·refine goC h ?_ ?_<;>intro c8 h
   ·refine goL ?_;obtain⟨⟨⟨a7,a8,⟨ak,al,am⟩,a9,ba,bb,⟨an,ao,ap⟩,bc⟩,bk⟩,br,h⟩:=gJ h;refine uN (gI (gNg _ br)) ?_;refine gIb ?_;refine jS (P:=Tryz.prog) Mix.h [(0,true),(1,true),(2,true),(3,true),(4,true),(5,true),(6,false),(7,false),(8,true),(9,true),(10,false)] (by kernel_rfl) ?_;refine goY ?_;refine kT (T:=88) (us:=qL [(jD.mk a7 a8 (gB.mk ak al am) a9 ba bb (gB.mk an ao ap) bc)]) ?_;obtain⟨bt,h⟩:=pU h;refine kN (T:=88) bt ?_;refine goY ?_;refine mJ ?_;refine goL ?_;refine jF ?_;obtain rfl:=Option.some.inj h;exact gAg [.B bk] _ ⟨v1,v2,(v3+1),v4,rfl,rfl⟩
   ·refine goC h ?_ ?_<;>intro b4 h
    ·refine goL ?_;obtain⟨⟨⟨aq,ar,au,av,⟨aa,ab,ac⟩,⟨ad,ae,ag,ah,⟨f,q,y⟩,ai,aj⟩⟩,bh⟩,bl,h⟩:=gJ h;refine uN (gI (gNh (gF.mk bm bn) bl)) ?_;refine gIb ?_;refine jS (P:=Tryz.prog) Mix.h [(0,true),(1,true),(2,true),(3,true),(4,true),(5,true),(6,false),(7,false),(8,true),(9,true),(10,false)] (by kernel_rfl) ?_;refine goY ?_;refine kT (T:=89) (us:=qM [(kX.mk aq ar au av (gB.mk aa ab ac) (gY.mk ad ae ag ah (gB.mk f q y) ai aj))]) ?_;obtain⟨bu,h⟩:=pU h;refine kN (T:=89) bu ?_;refine goY ?_;refine mJ ?_;refine goL ?_;refine jF ?_;obtain rfl:=Option.some.inj h;exact gAg [.B bh] _ ⟨v1,v2,v3,(v4+1),rfl,rfl⟩
    ·refine goS ?_;refine jF ?_;obtain rfl:=Option.some.inj h;exact gAg [.B false] _ ⟨v1,v2,v3,v4,rfl,rfl⟩
def yP(x2:LS × Bool)(x3:gF):List gF→(List pM)→(List kG)→(List jD)→(List kX)→Option (jZ × Bool)
 | [],h,q,y,aa=>bnd (gE8 (jZ.mk x3.atom x2.1 h q y aa)) fun ad=>
(cnd (!ad) (
(some ((jZ.mk [] [] [] [] [] []),false))) (
(some ((jZ.mk x3.atom x2.1 h q y aa),true))))
 | ae::xs,h,q,y,aa=>bnd (gQn x3.atom x2.1 ae h q y aa) fun f=>
(cnd (!f.1) (
(some ((jZ.mk [] [] [] [] [] []),false))) (
yP x2 x3 xs f.2.1 f.2.2.1 f.2.2.2.1 f.2.2.2.2))
def zH(f:gF):Option (jZ × Bool):=
bnd (uT f 2) fun y=>
bnd (gKp y.list) fun q=>
bnd (uT f 1) fun x3=>
bnd (uY f) fun x4=>
bnd ((cnd (!x4) ((some true)) ((cnd (decide ((f.list.length:Int) < 3)) ((some true)) (bnd (at? f.list 0) fun x8=>
(cnd (!(x8.atom==[112,97,99,107,97,103,101])) ((some true)) (bnd (at? f.list 2) fun h=>
(cnd (!(h.atom==[])) ((some true)) ((some (!q.2))))))))))) fun b5=>
(cnd b5 (
(some ((jZ.mk [] [] [] [] [] []),false))) (
yP q x3 (f.list.drop 3) [] [] [] []))
theorem gOk(a0:gF){r:jZ × Bool}(h:zH a0=some r):jI Tryz.prog 164 [.d (qJ a0)] [gEv r.1,.b r.2]:=by
 obtain⟨al,ab⟩:=a0;unfold zH at h;refine SpI Tryz.func164 fun A _=>?_;refine goL ?_;obtain⟨⟨bo,bp⟩,bg,h⟩:=gJ h;refine uN (gI (vE _ _ bg)) ?_;refine uN (gIc) ?_;obtain⟨⟨f,a9⟩,bh,h⟩:=gJ h;refine jP (gI (gQe _ bh)) ?_;obtain⟨⟨q,ba⟩,bi,h⟩:=gJ h;refine uN (gI (vE _ _ bi)) ?_;refine jP (gIc) ?_;refine yT (jN TBd.h TZ.h rfl (by repeat constructor)) ?_;obtain⟨x4,bj,h⟩:=gJ h;refine jP (gI (zQ _ bj)) ?_;obtain⟨b5,hb5,h⟩:=gJ h;refine kH ⟨[(1,.ptr 0 0),(2,.ptr 1 0),(6,.ptr 2 0),(48,.B b5)],[bSx al ab,.box [.S [],.nilsl,.nilsl,.nilsl,.nilsl,.nilsl],.box [.S q,.L 1 (gT f),.nilsl,.nilsl,.nilsl,.nilsl]],Tryz.f164.ntmps⟩ ?_ ?_
 ·refine gqO 23 hb5 (fun c6 hb5=>?_);refine gqO 29 hb5 (fun c7 hb5=>?_);obtain⟨x8,ar,hb5⟩:=gJ hb5;obtain⟨bb,ar⟩:=gBm ar;obtain⟨bq,br⟩:=x8;refine jP (uL bb (vH ar)) ?_;refine gqO 37 hb5 (fun c9 hb5=>?_);obtain⟨bk,am,hb5⟩:=gJ hb5;obtain⟨au,am⟩:=gBm am;obtain⟨bl,bm⟩:=bk;refine jP (uL au (vH am)) ?_;exact gqZ 45 hb5
 refine goC h ?_ ?_<;>intro bv h
 ·refine goL ?_;refine vP (jN TBd.h TZ.h rfl (by repeat constructor)) ?_;exact goR h
 ·refine goS ?_;refine noB ?_;refine qZ 46 5 2 2 rfl rfl (by repeat constructor) (by repeat constructor) (by repeat constructor) (by repeat constructor) ?_;show V _ _ _ _ _;refine qZ 171 3 2 3 rfl rfl (by repeat constructor) (by repeat constructor) (by repeat constructor) (by repeat constructor) ?_;show V _ _ _ _ _;refine qZ 41 12 2 4 rfl rfl (by repeat constructor) (by repeat constructor) (by repeat constructor) (by repeat constructor) ?_;show V _ _ _ _ _;refine qZ 176 16 2 5 rfl rfl (by repeat constructor) (by repeat constructor) (by repeat constructor) (by repeat constructor) ?_;show V _ _ _ _ _;refine yC 0 1 (fun bw=>?_);refine hMx (fun(y:Nat)(ac:List pM)(ad:List kG)(ae:List jD)(ag:List kX)(ah:Nat)(ai:Nat)(aj:Nat)(ak:Nat)=>⟨[(1,.ptr 0 0),(2,.ptr 1 0),(6,.ptr 2 0),(7,.N y)],[bSx al ab,.box [.S [],.nilsl,.nilsl,.nilsl,.nilsl,.nilsl],.box [.S q,.L 1 (gT f),.sl 3 ah,.sl 4 ai,.sl 5 aj,.sl 6 ak],.arr 46 5 ah (yM ac),.arr 171 3 ai (qK ad),.arr 41 12 aj (qL ae),.arr 176 16 ak (qM ag)],Tryz.f164.ntmps⟩) (fun y ac ad ae ag ah ai aj ak=>yP (f,a9) (gF.mk q ba) (ab.drop y) ac ad ae ag=some r) (fun y ac ad ae ag ah ai aj ak=>ab.length - y) 3 [] [] [] [] 0 0 0 0 eJ h ?_;rintro y ac ad ae ag ah ai aj ak h;refine goL ?_;refine mR (fun av=>?_) (fun av=>?_)
  ·have aa:=vR av;obtain⟨bn,bc,aw⟩:=drop_at aa;rw [aw,yP.eq_2] at h;obtain⟨ax,ay⟩:=bn;refine noS ?_;refine kI (jA ?_);refine goL ?_;refine jP (jR y (vH bc)) ?_;obtain⟨⟨a3,an,ao,ap,aq⟩,bd,h⟩:=gJ h;refine gBz [2,3,4,5,6] (hCa q f (gF.mk ax ay) ac ad ae ag ah ai aj ak bd) ?_;rintro _ _ ⟨a4,a5,a6,a7,rfl,rfl⟩;show VO _ _ _ _ ⟨(_,.B a3)::_,[bSx al ab,.box [.S [],.nilsl,.nilsl,.nilsl,.nilsl,.nilsl],.box [.S q,.L 1 (gT f),.sl 3 a4,.sl 4 a5,.sl 5 a6,.sl 6 a7],.arr 46 5 a4 (yM an),.arr 171 3 a5 (qK ao),.arr 41 12 a6 (qL ap),.arr 176 16 a7 (qM aq)],_⟩ _;refine goC h ?_ ?_<;>intro bx h
   ·refine goL ?_;refine vP (jN TBd.h TZ.h rfl (by repeat constructor)) ?_;exact goR h
   ·refine goS ?_;refine jP (kD y (by omega)) ?_;exact⟨(y+1),an,ao,ap,aq,a4,a5,a6,a7,h,by omega,eJ⟩
  ·have aa:=vS av;rw [jK aa,yP.eq_1] at h;refine goX ?_;obtain⟨bz,be,h⟩:=gJ h;refine yT (gUa (gOj (jZ.mk q f ac ad ae ag) be)) ?_;refine mR (fun a8=>?_) (fun a8=>?_)
   ·replace h:=kU a8 h;refine goL ?_;refine vP (jN TBd.h TZ.h rfl (by repeat constructor)) ?_;exact goR h
   ·replace h:=kV a8 h;refine goS ?_;refine gV 3 rfl rfl ?_;refine gV 4 rfl rfl ?_;refine gV 5 rfl rfl ?_;refine gV 6 rfl rfl ?_;refine jF ?_;cases h;exact uM
def gCa(q:LB):Option (jZ × Bool):=
bnd (gEb q) fun f=>
(cnd (!f.2) (
(some ((jZ.mk [] [] [] [] [] []),false))) (
bnd (zH f.1) fun h=>
(some (h.1,h.2))))
theorem gQo(a0:LB){r:jZ × Bool}(h:gCa a0=some r):jI Tryz.prog 140 [.S a0] [gEv r.1,.b r.2]:=by
 unfold gCa at h;refine SpI Tryz.func140 fun A _=>?_;refine goL ?_;obtain⟨⟨⟨f,q⟩,ak⟩,ag,h⟩:=gJ h;refine jP (gI (gTp _ ag)) ?_;refine mR (fun c2=>?_) (fun c2=>?_)
 ·replace h:=kU c2 h;refine goL ?_;refine vP (jN TBd.h TZ.h rfl (by repeat constructor)) ?_;exact goR h
 ·replace h:=kV c2 h;refine goS ?_;obtain⟨⟨⟨y,aa,ab,ac,ad,ae⟩,al⟩,ai,h⟩:=gJ h;refine uN (gI (gOk _ ai)) ?_;exact goR h
def vF:LS→(List jZ)→Option (gM × Int)
 | [],f=>(some ((gM.mk f),(-1)))
 | y::xs,f=>(cnd (gGy y) (
vF xs f) (
bnd (gCa y) fun h=>
lt_ ((cnd (!h.2) (true) (((f.length:Int)==5)))) fun q=>
(cnd q (
(some ((gM.mk []),(f.length:Int)))) (
gd (f.length+[h.1].length≤4294967296) (
vF xs (f++[h.1]))))))
def zL(s:LB):Option (gM × Int):=
bnd (gE6 s 10) fun f=>
vF f []
theorem gQp(s:LB){r:gM × Int}(h:zL s=some r):Go.Eng.Spec Tryz.prog 98 [.S s] [] (fun sv Lo=>sv=.tup [.ag [.sl 0 0],.I r.2]∧Lo=[.arr 91 6 0 (mE r.1.packages)]):=by
 unfold zL at h;refine kJ 0 Tryz.func98 rfl (by kernel_rfl) rfl rfl fun A _=>?_;refine goL ?_;refine yT (jN TBd.h TZ.h rfl (by repeat constructor)) ?_;obtain⟨x1,an,h⟩:=gJ h;refine jP (gI (gU1 _ _ an)) ?_;refine noB ?_;refine qZ 91 6 1 0 rfl rfl (by repeat constructor) (by repeat constructor) (by repeat constructor) (by repeat constructor) ?_;show V _ _ _ _ _;refine gCw 5 (fun z5=>?_);refine mG (fun(y4:Nat)(y2:List jZ)(v3:Nat)=>⟨[(2,.ptr 0 0),(4,.ptr 1 0),(5,.L 1 (gT x1)),(6,.N y4)],[.box [.nilsl],.box [.sl 2 v3],.arr 91 6 v3 (mE y2)],Tryz.f98.ntmps⟩) (fun y4 y2 v3=>vF (x1.drop y4) y2=some r) (fun y4 y2 v3=>x1.length - y4) 0 [] 0 eJ h ?_;rintro y4 y2 v3 h;refine goL ?_;refine mR (fun c6=>?_) (fun c6=>?_)
 ·have ae:=vR c6;obtain⟨x7,ak,al⟩:=drop_at ae;rw [al,vF.eq_2] at h;refine noS ?_;refine kI (jA ?_);refine goL ?_;refine jP (jR y4 (gO7 ak)) ?_;refine jP (gI (gZ9 x7)) ?_;refine mR (fun c8=>?_) (fun c8=>?_)
  ·replace h:=kU c8 h;refine goX ?_;refine jP (kD y4 (by omega)) ?_;exact⟨(y4+1),y2,v3,h,by omega,eJ⟩
  ·replace h:=kV c8 h;refine goS ?_;refine jP (jR y4 (gO7 ak)) ?_;obtain⟨⟨⟨f,y,aa,ab,ac,ad⟩,av⟩,aq,h⟩:=gJ h;refine jP (gI (gQo _ aq)) ?_;obtain⟨ar,hb10,h⟩:=uK h;refine kH ⟨[(2,.ptr 0 0),(4,.ptr 1 0),(5,.L 1 (gT x1)),(6,.N y4),(7,.ptr 3 0),(38,.B ar)],[.box [.nilsl],.box [.sl 2 v3],.arr 91 6 v3 (mE y2),bPk f y aa ab ac ad],Tryz.f98.ntmps⟩ ?_ ?_
   ·exact gqZ 33 hb10
   refine goC h ?_ ?_<;>intro ax h
   ·refine uC (P:=Tryz.prog) Mix.h (.q 0 (.q 1 (.h 2 (.h 3 (hcT 4 (.q 5 .nil)) (hcT 4 (hcT 3 (.q 5 .nil)))) (hcT 4 (hcT 2 (hcT 3 (.q 5 .nil))))))) ⟨[(2,.ptr 0 0),(3,.I (y2.length:Int))],[.box [.nilsl],.box [.sl 2 v3],.arr 91 6 v3 (mE y2),bPk f y aa ab ac ad],Tryz.f98.ntmps⟩ (by kernel_rfl) ?_ ?_
    ·refine goT ?_;refine uD (kF gZ) ?_ ?_
     ·refine uD (hEt gZ) ?_ ?_
      ·refine goT ?_;refine jL ?_;exact pQ 0 [0,1,2,3]
      refine goT ?_;refine gQ (hEt gZ) ?_;refine goT ?_;refine jL ?_;exact pQ 0 [0,1,2,3]
     refine goT ?_;refine gQ (kF gZ) ?_;refine gQ (hEt gZ) ?_;refine goT ?_;refine jL ?_;exact pQ 0 [0,1,2,3]
    refine goL ?_;refine qZ 91 6 0 0 rfl rfl (by repeat constructor) (by repeat constructor) (by repeat constructor) (by repeat constructor) ?_;refine hEf (fr':=[(2,.ptr 1 0),(3,.I (y2.length:Int))]) (Lc:=[.arr 91 6 0 [],.box [.sl 0 0]]) 0 [4,0] ?_;refine jF ?_;obtain rfl:=Option.some.inj h;exact gAg [.ag [.sl 0 0],.I (y2.length:Int)] _ ⟨rfl,rfl⟩
   ·refine goS ?_;refine uO (u:=(.st [.s f,.sl 1 (gT y),.sl 5 (yM aa),.sl 3 (qK ab),.sl 12 (qL ac),.sl 16 (qM ad)])) ?_;obtain⟨au,h⟩:=pU h;refine gAd au ?_;refine goL ?_;refine jP (kD y4 (by omega)) ?_;exact⟨(y4+1),(y2++[(jZ.mk f y aa ab ac ad)]),(v3+1),h,by omega,eJ⟩
 ·have ae:=vS c6;rw [jK ae,vF.eq_1] at h;refine goX ?_;refine hEf (fr':=[(2,.ptr 1 0),(3,.I (-1))]) (Lc:=[.arr 91 6 v3 (mE y2),.box [.sl 0 v3]]) 0 [2,0] ?_;refine hR7 (fr':=[(2,.ptr 1 0),(3,.I (-1))]) (L':=[.arr 91 6 0 (mE y2),.box [.sl 0 0]]) 0 0 ?_;refine jF ?_;obtain rfl:=Option.some.inj h;exact gAg [.ag [.sl 0 0],.I (-1)] _ ⟨rfl,rfl⟩
theorem hCb{x:gF}(hx:wfx x=true)(hn:ndx x≤900)(hd:dpx x≤14)(hl:(fmt x).length≤4900)(hv:uY x=some true):gEb (fmt x)=some (x,true):=by
 have h:gB3 5000 ⟨fmt x,0,0,0,false⟩=some (x,⟨fmt x,((0+(fmt x).length:Nat):Int),0,0+ndx x,false⟩):=
  hFo (s:=fmt x) (by omega) x 0 5000 0 0 [] hx (by simp) (fun b t h=>by cases h) (by omega) (by omega) (by omega) (by omega) (by omega)
 unfold gEb;rw [jV h];simp only;rw [jV (hI8 (.inl (by simp)))];simp only [gW];rw [show (((0+(fmt x).length:Nat):Int) !=((fmt x).length:Int))=false from by rw [Nat.zero_add];exact bne_self_eq_false _];simp only [gW,hv,bnd,Bool.not_true]
def noL(l:LB):Bool:=l.all fun b=> !((b.toNat:Int)==10)
theorem gNi(s:LB)(hl:s.length≤4294967296)(tail:LB):∀(a:LB)(p q n:Nat)(acc:LS),noL a=true→s.drop p=a++tail→qF s 10 (n+a.length) acc q (p:Int)=qF s 10 n acc q ((p+a.length:Nat):Int)
 | [],p,q,n,acc,_,_=>rfl
 | b::a,p,q,n,acc,hb,h=>by
   simp only [noL,List.all_cons,Bool.and_eq_true,Bool.not_eq_true'] at hb;obtain⟨f,y,h3⟩:=gEx (by simpa using h);rw [show n+(b::a).length=(n+a.length)+1 by simp;omega,qF];rw [show decide ((p:Int)≤(s.length:Int))=true from decide_eq_true (by omega),show((p:Int)==(s.length:Int))=false from beq_eq_false_iff_ne.2 (by omega)];simp only [jQ,gW,f,bnd,hb.1];rw [gXw (by omega),gNi s hl tail a (p+1) q n acc hb.2 y];simp only [List.length_cons];rw [show p+1+a.length=p+(a.length+1) by omega]
theorem gU4(s:LB)(hl:s.length≤4294967295)(q n:Nat)(acc:LS)(hq:q≤s.length)(ha:acc.length≤4294967295):qF s 10 (n+2) acc q (s.length:Int)=some (acc++[s.drop q]):=by
 rw [qF];rw [show decide ((s.length:Int)≤(s.length:Int))=true from decide_eq_true (by omega),beq_self_eq_true];simp only [jQ,bnd];rw [qN ⟨by omega,by omega,by omega⟩,qN (by simp;omega),gXw (by omega),qF,show decide (((s.length+1:Nat):Int)≤(s.length:Int))=false from decide_eq_false (by omega)];simp only [gW,Int.toNat_natCast];rw [List.take_of_length_le (by simp)]
theorem hG7(s:LB)(hl:s.length≤4294967295)(p q n:Nat)(acc:LS){t:LB}(h:s.drop p=10::t)(hq:q≤p)(ha:acc.length≤4294967295):qF s 10 (n+1) acc q (p:Int)=qF s 10 n (acc++[(s.drop q).take (p - q)]) ((p+1:Nat):Int) ((p+1:Nat):Int):=by
 obtain⟨f,y,h3⟩:=gEx h;rw [qF];rw [show decide ((p:Int)≤(s.length:Int))=true from decide_eq_true (by omega),show((p:Int)==(s.length:Int))=false from beq_eq_false_iff_ne.2 (by omega)];simp only [jQ,gW,f,bnd];rw [show ((((10:UInt8).toNat:Nat):Int)==10)=true from by decide];simp only [jQ];rw [qN ⟨by omega,by omega,by omega⟩,qN (by simp;omega),gXw (by omega)];simp only [Int.toNat_natCast]
theorem hOg(l:LB)(h:noL l=true)(hl:l.length≤4900):gE6 l 10=some [l]:=by
 have f:=gNi l (by omega) [] l 0 0 (5000 - l.length) [] h (by simp);have q:=gU4 l (by omega) 0 (5000 - l.length - 2) [] (by omega) (by simp);unfold gE6 gFu;rw [show 5000 - l.length+l.length=5000 by omega,Nat.zero_add] at f;rw [show 5000 - l.length - 2+2=5000 - l.length by omega] at q;exact(f.trans q).trans (by simp)
theorem hOh(l m:LB)(h:noL l=true)(h':noL m=true)(hl:l.length+m.length≤4900):gE6 (l++[10]++m) 10=some [l,m]:=by
 have hs:(l++[10]++m).length=l.length+1+m.length:=by simp;omega
 have q:=gNi (l++[10]++m) (by omega) (10::m) l 0 0 (5000 - l.length) [] h (by simp);have f:=hG7 (l++[10]++m) (by omega) l.length 0 (4999 - l.length) [] (t:=m) (by simp) (by omega) (by simp);have y:=gNi (l++[10]++m) (by omega) [] m (l.length+1) (l.length+1) (4999 - l.length - m.length) [l] h' (by simp [List.drop_append]);have h4:=gU4 (l++[10]++m) (by omega) (l.length+1) (4997 - l.length - m.length) [l] (by omega) (by simp);unfold gE6 gFu;rw [show 5000 - l.length+l.length=5000 by omega,Nat.zero_add] at q;rw [show 4999 - l.length+1=5000 - l.length by omega] at f;rw [show 4999 - l.length - m.length+m.length=4999 - l.length by omega] at y;rw [show 4997 - l.length - m.length+2=4999 - l.length - m.length by omega,hs] at h4;have h5:(List.drop 0 (l++[10]++m)).take (l.length - 0)=l:=by simp
 rw [h5,List.nil_append] at f;refine((q.trans f).trans (y.trans h4)).trans ?_;simp [List.drop_append]
def hQh(x:gF)(m:Nat)(good:jZ→Bool):Bool:=
 wfx x && decide (ndx x≤900) && decide (dpx x≤14) && decide ((fmt x).length≤m) && noL (fmt x) && !(gGy (fmt x)) && (uY x==some true) && (match zH x with | some (p,true)=>good p | _=>false)
theorem hCc{x:gF}{m:Nat}{good:jZ→Bool}(hm:m≤4900)(h:hQh x m good=true):∃p,gCa (fmt x)=some (p,true)∧zH x=some (p,true)∧good p=true∧gGy (fmt x)=false∧noL (fmt x)=true∧(fmt x).length≤m:=by
 unfold hQh at h;simp only [Bool.and_eq_true,decide_eq_true_eq,Bool.not_eq_true',beq_iff_eq] at h;obtain⟨⟨⟨⟨⟨⟨⟨q,y⟩,h3⟩,h4⟩,h5⟩,h6⟩,h7⟩,f⟩:=h;split at f
 ·rename_i p hp;refine⟨p,?_,hp,f,h6,h5,h4⟩;unfold gCa;rw [jV (hCb q y h3 (by omega) h7)];simp only [Bool.not_true,gW,hp,bnd]
 ·cases f
def ikB(i:jD):Bool:=
 (((i.trait==gFj) || ((i.trait==eqN) || ((i.trait==hLm) || ((i.trait==hBt) && (i.where_.isEmpty && ((i.head.kind==2) && i.head.args.isEmpty)))))) && (decide (tok i.head) && decide (tnd i.head≤40000)))
 && ((decide (i.where_.length≤4) && i.where_.all fun b=>(b.type_.kind==1) && b.type_.args.isEmpty)
 && (!((i.trait==eqN) || (i.trait==hBt)) || i.where_.all fun b=>(b.trait==eqN) || (b.trait==hBt)))
theorem hJ7{t:gB}(hk:t.kind≠4)(ha:t.args.isEmpty=true):tok t∧dyS t∧tnd t≤1∧ed t=0:=by
 obtain⟨k,s,ts⟩:=t;obtain rfl:ts=[]:=List.isEmpty_iff.1 ha;exact⟨gOz _ _,⟨fun h=>absurd h hk,trivial⟩,by simp [tnd,gHs],by simp [ed,eds]⟩
theorem hOi{i:jD}(h:ikB i=true):IK i:=by
 unfold ikB at h;simp only [Bool.and_eq_true,Bool.or_eq_true,beq_iff_eq,decide_eq_true_eq,Bool.not_eq_true',List.all_eq_true] at h;obtain⟨⟨f,h2,h3⟩,⟨h4,h5⟩,q⟩:=h;refine⟨?_,h2,h3,⟨h4,fun b hb=>?_⟩,fun he b hb=>?_⟩
 ·rcases f with f | f | f | ⟨f,q,h7,y⟩
  ·exact .inl f
  ·exact .inr (.inl f)
  ·exact .inr (.inr (.inl f))
  ·obtain⟨k1,k2,k3,k4⟩:=hJ7 (t:=i.head) (by rw [h7];decide) y;exact .inr (.inr (.inr ⟨f,List.isEmpty_iff.1 q,k1,k2,by simpa using k3,by omega⟩))
 ·obtain⟨y,h9⟩:=h5 b hb;obtain⟨k1,k2,k3,k4⟩:=hJ7 (t:=b.type_) (by rw [y];decide) h9;exact⟨k1,k2,by omega⟩
 ·rcases q with q | q
  ·rcases he with he | he<;>rw [he] at q<;>cases q
  ·exact q b hb
def daB(p:jZ):Bool:=p.dataTypes.all fun d=>d.constructors.all fun c=>c.fields.all fun f=>decide (tok f)
def pkB(p:jZ):Bool:=(decide (p.instances.length≤100) && p.instances.all ikB) && daB p
theorem hJ8{p:jZ}(h:pkB p=true):PK p:=by
 unfold pkB daB at h;simp only [Bool.and_eq_true,decide_eq_true_eq,List.all_eq_true] at h;exact⟨⟨h.1.1,fun i hi=>hOi (h.1.2 i hi)⟩,fun d hd c hc f hf=>h.2 d hd c hc f hf⟩
def okC(b:Bool):Bool:=hQh (gUz b) 3000 pkB
def okA:Bool:=hGq.all fun h=>hGr.all fun m=>[[],hNz].all fun f=>[[],hN2].all fun q=>[[],hN3].all fun y=>hQh (hN4 h m f q y) 1500 pkB
theorem hSm:okC true=true:=by kernel_rfl
theorem hSn:okC false=true:=by kernel_rfl
def gKv(c:gK):Option (gM × gK):=
bnd (gFt c) fun f=>
bnd (zL f.1) fun h=>
(some (h.1,f.2))
theorem hCd(c:gK){r:gM × gK}(h:gKv c=some r):Go.Eng.Spec Tryz.prog 68 [.ptr 0 0] [bCu c.b c.i c.h] (fun sv Lo=>sv=.ag [.sl 1 0]∧Lo=[bCu r.2.b r.2.i r.2.h,.arr 91 6 0 (mE r.1.packages)]):=by
 obtain⟨ad,ae,ah⟩:=c;unfold gKv at h;refine kJ 1 Tryz.func68 rfl (by kernel_rfl) rfl rfl fun A _=>?_;refine goL ?_;obtain⟨⟨ab,⟨f,q,y⟩⟩,ai,h⟩:=gJ h;refine mI 0 (gSr (gK.mk ad ae ah) ai) ?_;obtain⟨⟨⟨aa⟩,ac⟩,aj,h⟩:=gJ h;refine gBz [] (gQp ab aj) ?_;rintro _ _ ⟨rfl,rfl⟩;show VO _ _ _ _ ⟨(_,.tup [.ag [.sl 2 0],.I ac])::_,[bCu f q y,.box [.nilsl],.arr 91 6 0 (mE aa)],_⟩ _;refine goL ?_;refine hEf (fr':=[(2,.ptr 2 0)]) (Lc:=[bCu f q y,.arr 91 6 0 (mE aa),.box [.sl 1 0]]) 1 [0,2,1] ?_;refine jF ?_;obtain rfl:=Option.some.inj h;exact gAg [.ag [.sl 1 0]] _ ⟨rfl,rfl⟩
end Go.Proofs.YtfpdlnkkcnmebaaGreat
