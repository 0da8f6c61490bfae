import Derived.Test.YtfpdlnkkcnmebaaGreatB22
set_option maxHeartbeats 4000000
set_option linter.unusedVariables false
set_option linter.unusedSimpArgs false
set_option linter.unusedSectionVars false
namespace Go.Proofs.YtfpdlnkkcnmebaaGreat
open Go Go.Eng
attribute [local irreducible] V VO VQ VY Quiet QR jF mJ Rng qI qJ qB
def wJ(a0:gD)(x2:LS)(x3:gD)(x5:LS):List gD→(List jD)→Option (mE × Bool)
 | [],y=>bnd (bnd (uC a0) fun ah=>
(cnd (!ah) ((some true)) ((cnd ((a0.list.length:Int)==0) ((some true)) (bnd (gGo (mE.mk x3.atom x5 (wY x2 [97,117,116,111]) (wY x2 [97,115,115,111,99]) y)) fun ai=>
bnd (gB6 5000 ai a0) fun aj=>
(some (!aj))))))) fun ak=>
(cnd ak (
(some ((mE.mk [] [] false false []),false))) (
(some ((mE.mk x3.atom x5 (wY x2 [97,117,116,111]) (wY x2 [97,115,115,111,99]) y),true))))
 | c::xs,y=>bnd (uB c 0) fun f=>
bnd (uB c 1) fun al=>
bnd (gOm al.list) fun h=>
bnd (uB c 2) fun am=>
bnd (gLh 5000 am) fun q=>
(cnd (decide ((c.list.length:Int) > 3)) (
bnd (uB c 3) fun an=>
bnd (gB7 an) fun ac=>
bnd (uB c 4) fun ao=>
bnd (gFh 5000 ao) fun ad=>
gd (y.length+[(jD.mk f.atom h q true ac ad)].length≤4294967296) (
wJ a0 x2 x3 x5 xs (y++[(jD.mk f.atom h q true ac ad)]))) (
gd (y.length+[(jD.mk f.atom h q false [] (gU.mk 0 [] [] 0 (gB.mk 0 [] []) [] []))].length≤4294967296) (
wJ a0 x2 x3 x5 xs (y++[(jD.mk f.atom h q false [] (gU.mk 0 [] [] 0 (gB.mk 0 [] []) [] []))]))))
def gGp(c:gD):Option (mE × Bool):=
bnd (uB c 3) fun f=>
bnd (gB7 f) fun h=>
bnd (uB c 1) fun q=>
bnd (uB c 2) fun y=>
bnd (gB7 y) fun x5=>
bnd (gH8 c 4) fun x6=>
wJ c h q x5 x6 []
theorem gPh(a0:gD){r:mE × Bool}(h:gGp a0=some r):jF Tryz.prog 187 [.d (qC a0)] [gHg r.1,.b r.2]:=by
 obtain⟨ai,aj⟩:=a0;unfold gGp at h;refine SpI Tryz.func187 fun A _=>?_;refine goL ?_;obtain⟨⟨cb,cc⟩,bl,h⟩:=gJ h;refine qM (gG (uI _ _ bl)) ?_;obtain⟨x2,bm,h⟩:=gJ h;refine qM (gG (gEn _ bm)) ?_;refine gHi ?_;refine jL (P:=Tryz.prog) Mix.h [(0,true),(1,true),(2,true),(3,true),(4,true),(5,true),(6,true),(7,true),(8,true),(9,true),(10,true),(11,false),(12,false)] (by kernel_rfl) ?_;refine goY ?_;obtain⟨⟨ah,a5⟩,bn,h⟩:=gJ h;refine jO rfl (gG (uI _ _ bn)) ?_;refine jO rfl (gHj) ?_;refine goY ?_;obtain⟨⟨cd,ce⟩,bo,h⟩:=gJ h;refine jO rfl (gG (uI _ _ bo)) ?_;obtain⟨x5,bp,h⟩:=gJ h;refine jO rfl (gG (gEn _ bp)) ?_;refine goY ?_;refine jO rfl (gG (gF2 x2 [97,117,116,111])) ?_;refine goY ?_;refine jO rfl (gG (gF2 x2 [97,115,115,111,99])) ?_;refine goY ?_;refine kX ?_;refine goL ?_;obtain⟨x6,br,h⟩:=gJ h;refine jK (gG (gL8 _ _ br)) ?_;refine noB ?_;refine uO 108 16 2 4 rfl rfl (by repeat constructor) (by repeat constructor) (by repeat constructor) (by repeat constructor) ?_;show V _ _ _ _ _;refine gCm 6 (fun cf=>?_);refine kV (fun(y9:Nat)(y7:List jD)(v8:Nat)=>⟨[(1,.ptr 0 0),(2,.ptr 1 0),(5,.ptr 2 0),(6,.L 2 (jA x6)),(7,.N y9)],[bSx ai aj,.box [.S [],.nilsl,.B false,.B false,.nilsl],.box [.S ah,.L 1 (gP x5),.B (wY x2 [97,117,116,111]),.B (wY x2 [97,115,115,111,99]),.sl 3 v8],.arr 108 16 v8 (kG y7)],Tryz.f187.ntmps⟩) (fun y9 y7 v8=>wJ (gD.mk ai aj) x2 (gD.mk ah a5) x5 (x6.drop y9) y7=some r) (fun y9 y7 v8=>x6.length - y9) 0 [] 0 eJ h ?_;rintro y9 y7 v8 h;refine goL ?_;refine mQ (fun aw=>?_) (fun aw=>?_)
 ·have ag:=vF aw;obtain⟨bt,c,ax⟩:=drop_at ag;rw [ax,wJ.eq_2] at h;obtain⟨bu,bv⟩:=bt;refine noS ?_;refine kH (jE ?_);refine jL (P:=Tryz.prog) Mix.h [(0,true),(1,true),(2,true),(3,true),(4,true),(5,true),(6,true),(7,true),(8,true),(9,true),(10,true),(11,true),(12,true),(13,true),(14,true),(15,true),(16,true),(17,true),(18,true),(19,true),(20,false),(21,false)] (by kernel_rfl) ?_;refine goY ?_;refine jO rfl (jM y9 (uM c)) ?_;refine goY ?_;obtain⟨⟨f,bw⟩,a6,h⟩:=gJ h;refine jO rfl (gG (uI _ _ a6)) ?_;refine jO rfl (gHj) ?_;refine goY ?_;refine jO rfl (jM y9 (uM c)) ?_;refine goY ?_;obtain⟨⟨bx,bz⟩,a7,h⟩:=gJ h;refine jO rfl (gG (uI _ _ a7)) ?_;refine jO rfl (gHj) ?_;obtain⟨av,a8,h⟩:=gJ h;refine jO rfl (gG (gXa _ a8)) ?_;refine goY ?_;refine jO rfl (jM y9 (uM c)) ?_;refine goY ?_;obtain⟨⟨b0,b1⟩,a9,h⟩:=gJ h;refine jO rfl (gG (uI _ _ a9)) ?_;obtain⟨⟨q,y,aa⟩,ba,h⟩:=gJ h;refine jO rfl (gG (gN2 _ _ ba)) ?_;refine goY ?_;refine kX ?_;refine goL ?_;refine jK (jM y9 (uM c)) ?_;refine mQ (fun ay=>?_) (fun ay=>?_)
  ·replace h:=kT ay h;refine goL ?_;refine jK (jM y9 (uM c)) ?_;obtain⟨⟨b2,b3⟩,bb,h⟩:=gJ h;refine qM (gG (uI _ _ bb)) ?_;obtain⟨bc,bd,h⟩:=gJ h;refine jK (gG (gEn _ bd)) ?_;refine jK (jM y9 (uM c)) ?_;obtain⟨⟨b4,b5⟩,be,h⟩:=gJ h;refine qM (gG (uI _ _ be)) ?_;obtain⟨⟨ak,al,am,an,⟨ab,ac,ad⟩,ao,ap⟩,bf,h⟩:=gJ h;refine jK (gG (gPm _ _ bf)) ?_;refine uQ (u:=(.st [.s f,.sl 3 (gK av),.st [.i .i64 q,.s y,.sl 3 (gK aa)],.b true,.sl 1 (gP bc),.st [.i .i64 ak,.s al,.s am,.i .i64 an,.st [.i .i64 ab,.s ac,.sl 3 (gK ad)],.sl 9 (jS ao),.sl 11 (mW ap)]])) ?_;obtain⟨b6,h⟩:=pO h;refine gAi b6 ?_;refine goL ?_;refine jK (kD y9 (by omega)) ?_;exact⟨(y9+1),(y7++[(jD.mk f av (gB.mk q y aa) true bc (gU.mk ak al am an (gB.mk ab ac ad) ao ap))]),(v8+1),h,by omega,eJ⟩
  ·replace h:=kU ay h;refine goS ?_;refine uQ (u:=(.st [.s f,.sl 3 (gK av),.st [.i .i64 q,.s y,.sl 3 (gK aa)],.b false,.sl 1 [],.st [.i .i64 0,.s [],.s [],.i .i64 0,.st [.i .i64 0,.s [],.sl 3 []],.sl 9 [],.sl 11 []]])) ?_;obtain⟨b7,h⟩:=pO h;refine gAi b7 ?_;refine goL ?_;refine jK (kD y9 (by omega)) ?_;exact⟨(y9+1),(y7++[(jD.mk f av (gB.mk q y aa) false [] (gU.mk 0 [] [] 0 (gB.mk 0 [] []) [] []))]),(v8+1),h,by omega,eJ⟩
 ·have ag:=vG aw;rw [jH ag,wJ.eq_1] at h;refine noX ?_;refine gHi ?_;refine gW 3 rfl rfl ?_;obtain⟨b8,hb25,h⟩:=gJ h;refine uT (P:=Tryz.prog) Mix.h ⟨[(2,.ptr 1 0),(5,.ptr 2 0),(94,.B b8)],[bSx ai aj,.box [.S [],.nilsl,.B false,.B false,.nilsl],.box [.S ah,.L 1 (gP x5),.B (wY x2 [97,117,116,111]),.B (wY x2 [97,115,115,111,99]),.sl 3 v8],.frz 108 16 v8 (kG y7)],Tryz.f187.ntmps⟩ (by kernel_rfl) ?_ ?_
  ·refine goL ?_;obtain⟨cg,bg,hb25⟩:=gJ hb25;refine gCy (gG (yT _ bg)) ?_;refine goL ?_;refine wN 82 (fun a3=>?_) (fun a3=>?_)
   ·replace hb25:=kT a3 hb25;refine goL ?_;cases hb25;exact eJ
   ·replace hb25:=kU a3 hb25;refine goL ?_;refine wN 88 (fun a4=>?_) (fun a4=>?_)
    ·replace hb25:=kT a4 hb25;refine goL ?_;cases hb25;exact eJ
    ·replace hb25:=kU a4 hb25;refine goL ?_;obtain⟨⟨b9,ca⟩,bh,hb25⟩:=gJ hb25;refine hBo (gRj (gPg (mE.mk ah x5 (wY x2 [97,117,116,111]) (wY x2 [97,115,115,111,99]) y7) bh)) ?_;refine goL ?_;obtain⟨ch,bi,hb25⟩:=gJ hb25;refine gEa (gG (gF6 _ _ _ bi)) ?_;refine goL ?_;cases hb25;exact eJ
  refine goC h ?_ ?_<;>intro ci h
  ·refine goL ?_;refine yS (jU TBd.h TZ.h rfl (by repeat constructor)) ?_;exact goR h
  ·refine goS ?_;refine jG ?_;cases h;exact uA
def gEm(c:jX):Option (Bool):=
bnd (gNy c) fun f=>
bnd ((cnd (!(mO c.name)) ((some true)) (bnd (yK c.deps 5) fun x4=>
(cnd (!x4) ((some true)) ((cnd (wY c.deps c.name) ((some true)) ((some (decide ((IntKind.i64.wrap ((IntKind.i64.wrap ((IntKind.i64.wrap ((c.traits.length:Int)+(c.dataTypes.length:Int)))+(c.instances.length:Int)))+(c.functions.length:Int))) > 24)))))))))) fun b2=>
(cnd b2 (
(some false)) (
bnd (yH f.1) fun x8=>
bnd ((cnd x8 (bnd (yH f.2.1) fun h=>
(cnd h (bnd (yH f.2.2.1) fun q=>
(cnd q (bnd (yH f.2.2.2) fun y=>
(cnd y (bnd (gM7 c) fun aa=>
(some aa)) ((some false)))) ((some false)))) ((some false)))) ((some false)))) fun b9=>
(some b9)))
theorem gM8(a0:jX){r:Bool}(h:gEm a0=some r):jF Tryz.prog 179 [.d (gD8 a0)] [.b r]:=by
 obtain⟨c,f,q,y,aa,ab⟩:=a0;unfold gEm at h;refine SpI Tryz.func179 fun A _=>?_;refine goL ?_;obtain⟨⟨ac,ad,ae,ag⟩,am,h⟩:=gJ h;refine jK (gG (gZo _ am)) ?_;refine jK (gG (qR c)) ?_;obtain⟨b2,hb2,h⟩:=gJ h;refine kC ⟨[(1,.ptr 0 0),(3,.L 1 (gP ac)),(4,.L 1 (gP ad)),(5,.L 1 (gP ae)),(6,.L 1 (gP ag)),(48,.B b2)],[bPk c f q y aa ab],Tryz.f179.ntmps⟩ ?_ ?_
 ·refine gqO 18 hb2 (fun c3 hb2=>?_);obtain⟨x4,an,hb2⟩:=gJ hb2;refine jK (gG (zU _ _ an)) ?_;refine gqO 24 hb2 (fun c5 hb2=>?_);refine jK (gG (gF2 f c)) ?_;refine gqO 31 hb2 (fun c6 hb2=>?_);refine jK (pV) ?_;refine gQc ?_;refine jK (pV) ?_;refine gQc ?_;refine jK (pV) ?_;cases hb2;exact eJ
 refine goC h ?_ ?_<;>intro c7 h
 ·exact goR h
 ·refine goS ?_;obtain⟨x8,ao,h⟩:=gJ h;refine jK (gG (gBb _ ao)) ?_;obtain⟨b9,hb9,h⟩:=gJ h;refine kC ⟨[(2,.B b9)],[bPk c f q y aa ab],Tryz.f179.ntmps⟩ ?_ ?_
  ·refine gqA 51 hb9 (fun ar hb9=>?_);obtain⟨au,ah,hb9⟩:=gJ hb9;refine jK (gG (gBb _ ah)) ?_;refine gqA 55 hb9 (fun av hb9=>?_);obtain⟨aw,ai,hb9⟩:=gJ hb9;refine jK (gG (gBb _ ai)) ?_;refine gqA 59 hb9 (fun ax hb9=>?_);obtain⟨ay,aj,hb9⟩:=gJ hb9;refine jK (gG (gBb _ aj)) ?_;refine gqA 63 hb9 (fun a3 hb9=>?_);obtain⟨a4,ak,hb9⟩:=gJ hb9;refine jK (gG (gYt _ ak)) ?_;cases hb9;exact eJ
  exact goR h
def gPi(nm:LB)(deps:LS)(x:gD)(f:List mE)(h:List kP)(q:List gY)(y:List kI):Option (Bool × List mE × List kP × List gY × List kI):=
bnd (uB x 0) fun x1=>
(cnd (x1.atom==[116,114,97,105,116]) (
bnd (gGp x) fun x3=>
gd (f.length+[x3.1].length≤4294967296) (
(some (x3.2,(f++[x3.1]),h,q,y)))) (
(cnd (x1.atom==[100,97,116,97]) (
bnd (gDu x) fun x6=>
gd (h.length+[x6.1].length≤4294967296) (
(some (x6.2,f,(h++[x6.1]),q,y)))) (
(cnd (x1.atom==[105,110,115,116]) (
bnd (gDx x) fun x9=>
gd (q.length+[x9.1].length≤4294967296) (
(some (x9.2,f,h,(q++[x9.1]),y)))) (
(cnd (x1.atom==[102,110]) (
bnd (gDy x) fun c=>
gd (y.length+[c.1].length≤4294967296) (
(some (c.2,f,h,q,(y++[c.1]))))) (
(some (false,f,h,q,y))))))))))
theorem gZx(nm:LB)(deps:LS)(x:gD)(l1:List mE)(l2:List kP)(l3:List gY)(l4:List kI)(v1:Nat)(v2:Nat)(v3:Nat)(v4:Nat){r:Bool × List mE × List kP × List gY × List kI}(h:gPi nm deps x l1 l2 l3 l4=some r):Go.Eng.Spec Tryz.prog 178 [.ptr 0 0,.d (qC x)] [.box [.S nm,.L 1 (gP deps),.sl 1 v1,.sl 2 v2,.sl 3 v3,.sl 4 v4],.arr 46 5 v1 (uY l1),.arr 171 3 v2 (pG l2),.arr 41 12 v3 (pI l3),.arr 176 16 v4 (pJ l4)] (fun sv Lo=>∃v'1 v'2 v'3 v'4,sv=.B r.1∧Lo=[.box [.S nm,.L 1 (gP deps),.sl 1 v'1,.sl 2 v'2,.sl 3 v'3,.sl 4 v'4],.arr 46 5 v'1 (uY r.2.1),.arr 171 3 v'2 (pG r.2.2.1),.arr 41 12 v'3 (pI r.2.2.2.1),.arr 176 16 v'4 (pJ r.2.2.2.2)]):=by
 obtain⟨bl,bm⟩:=x;unfold gPi at h;refine kS 5 Tryz.func178 rfl (by kernel_rfl) rfl rfl fun A _=>?_;refine goL ?_;obtain⟨⟨bz,b0⟩,bn,h⟩:=gJ h;refine qM (gG (uI _ _ bn)) ?_;refine jK (gHj) ?_;refine jE ?_;refine goC h ?_ ?_<;>intro c2 h
 ·refine goL ?_;obtain⟨⟨⟨av,aw,ax,ay,a0⟩,bh⟩,bo,h⟩:=gJ h;refine qM (gG (gPh _ bo)) ?_;refine gHi ?_;refine jL (P:=Tryz.prog) Mix.h [(0,true),(1,true),(2,true),(3,true),(4,true),(5,true),(6,false),(7,false),(8,true),(9,true),(10,false)] (by kernel_rfl) ?_;refine goY ?_;refine jT (T:=86) (us:=uY [(mE.mk av aw ax ay a0)]) ?_;obtain⟨g4,h⟩:=pO h;refine jR (T:=86) g4 ?_;refine goY ?_;refine kX ?_;refine goL ?_;refine jG ?_;obtain rfl:=Option.some.inj h;exact gBa [.B bh] _ ⟨(v1+1),v2,v3,v4,rfl,rfl⟩
 ·refine goC h ?_ ?_<;>intro c5 h
  ·refine goL ?_;obtain⟨⟨⟨a3,a4,a5⟩,bi⟩,bp,h⟩:=gJ h;refine qM (gG (gL2 _ bp)) ?_;refine gHi ?_;refine jL (P:=Tryz.prog) Mix.h [(0,true),(1,true),(2,true),(3,true),(4,true),(5,true),(6,false),(7,false),(8,true),(9,true),(10,false)] (by kernel_rfl) ?_;refine goY ?_;refine jT (T:=87) (us:=pG [(kP.mk a3 a4 a5)]) ?_;obtain⟨g7,h⟩:=pO h;refine jR (T:=87) g7 ?_;refine goY ?_;refine kX ?_;refine goL ?_;refine jG ?_;obtain rfl:=Option.some.inj h;exact gBa [.B bi] _ ⟨v1,(v2+1),v3,v4,rfl,rfl⟩
  ·refine goC h ?_ ?_<;>intro c8 h
   ·refine goL ?_;obtain⟨⟨⟨a6,a7,⟨aj,ak,al⟩,a8,a9,ba,⟨am,an,ao⟩,bb⟩,bj⟩,bq,h⟩:=gJ h;refine qM (gG (gL5 _ bq)) ?_;refine gHi ?_;refine jL (P:=Tryz.prog) Mix.h [(0,true),(1,true),(2,true),(3,true),(4,true),(5,true),(6,false),(7,false),(8,true),(9,true),(10,false)] (by kernel_rfl) ?_;refine goY ?_;refine jT (T:=88) (us:=pI [(gY.mk a6 a7 (gB.mk aj ak al) a8 a9 ba (gB.mk am an ao) bb)]) ?_;obtain⟨br,h⟩:=pO h;refine jR (T:=88) br ?_;refine goY ?_;refine kX ?_;refine goL ?_;refine jG ?_;obtain rfl:=Option.some.inj h;exact gBa [.B bj] _ ⟨v1,v2,(v3+1),v4,rfl,rfl⟩
   ·refine goC h ?_ ?_<;>intro b3 h
    ·refine goL ?_;obtain⟨⟨⟨ap,aq,ar,au,⟨y,aa,ab⟩,⟨ac,ad,ae,ag,⟨c,f,q⟩,ah,ai⟩⟩,bg⟩,bk,h⟩:=gJ h;refine qM (gG (gL6 (gD.mk bl bm) bk)) ?_;refine gHi ?_;refine jL (P:=Tryz.prog) Mix.h [(0,true),(1,true),(2,true),(3,true),(4,true),(5,true),(6,false),(7,false),(8,true),(9,true),(10,false)] (by kernel_rfl) ?_;refine goY ?_;refine jT (T:=89) (us:=pJ [(kI.mk ap aq ar au (gB.mk y aa ab) (gU.mk ac ad ae ag (gB.mk c f q) ah ai))]) ?_;obtain⟨bt,h⟩:=pO h;refine jR (T:=89) bt ?_;refine goY ?_;refine kX ?_;refine goL ?_;refine jG ?_;obtain rfl:=Option.some.inj h;exact gBa [.B bg] _ ⟨v1,v2,v3,(v4+1),rfl,rfl⟩
    ·refine goS ?_;refine jG ?_;obtain rfl:=Option.some.inj h;exact gBa [.B false] _ ⟨v1,v2,v3,v4,rfl,rfl⟩
def wQ(x2:LS × Bool)(x3:gD):List gD→(List mE)→(List kP)→(List gY)→(List kI)→Option (jX × Bool)
 | [],f,h,q,y=>bnd (gEm (jX.mk x3.atom x2.1 f h q y)) fun ac=>
(cnd (!ac) (
(some ((jX.mk [] [] [] [] [] []),false))) (
(some ((jX.mk x3.atom x2.1 f h q y),true))))
 | ad::xs,f,h,q,y=>bnd (gPi x3.atom x2.1 ad f h q y) fun c=>
(cnd (!c.1) (
(some ((jX.mk [] [] [] [] [] []),false))) (
wQ x2 x3 xs c.2.1 c.2.2.1 c.2.2.2.1 c.2.2.2.2))
def yL(c:gD):Option (jX × Bool):=
bnd (uB c 2) fun q=>
bnd (gJq q.list) fun h=>
bnd (uB c 1) fun y=>
bnd (uC c) fun x4=>
bnd ((cnd (!x4) ((some true)) ((cnd (decide ((c.list.length:Int) < 3)) ((some true)) (bnd (at? c.list 0) fun x8=>
(cnd (!(x8.atom==[112,97,99,107,97,103,101])) ((some true)) (bnd (at? c.list 2) fun f=>
(cnd (!(f.atom==[])) ((some true)) ((some (!h.2))))))))))) fun b5=>
(cnd b5 (
(some ((jX.mk [] [] [] [] [] []),false))) (
wQ h y (c.list.drop 3) [] [] [] []))
theorem gM9(a0:gD){r:jX × Bool}(h:yL a0=some r):jF Tryz.prog 164 [.d (qC a0)] [gD8 r.1,.b r.2]:=by
 obtain⟨ak,aa⟩:=a0;unfold yL at h;refine SpI Tryz.func164 fun A _=>?_;refine goL ?_;obtain⟨⟨bn,bo⟩,bf,h⟩:=gJ h;refine qM (gG (uI _ _ bf)) ?_;refine qM (gHj) ?_;obtain⟨⟨c,a8⟩,bg,h⟩:=gJ h;refine jK (gG (gO8 _ bg)) ?_;obtain⟨⟨f,a9⟩,bh,h⟩:=gJ h;refine qM (gG (uI _ _ bh)) ?_;refine jK (gHj) ?_;refine gAc (jU TBd.h TZ.h rfl (by repeat constructor)) ?_;obtain⟨x4,bi,h⟩:=gJ h;refine jK (gG (yT _ bi)) ?_;obtain⟨b5,hb5,h⟩:=gJ h;refine kC ⟨[(1,.ptr 0 0),(2,.ptr 1 0),(6,.ptr 2 0),(48,.B b5)],[bSx ak aa,.box [.S [],.nilsl,.nilsl,.nilsl,.nilsl,.nilsl],.box [.S f,.L 1 (gP c),.nilsl,.nilsl,.nilsl,.nilsl]],Tryz.f164.ntmps⟩ ?_ ?_
 ·refine gqO 23 hb5 (fun c6 hb5=>?_);refine gqO 29 hb5 (fun c7 hb5=>?_);obtain⟨x8,aq,hb5⟩:=gJ hb5;obtain⟨ba,aq⟩:=gAz aq;obtain⟨bp,bq⟩:=x8;refine jK (qY ba (uM aq)) ?_;refine gqO 37 hb5 (fun c9 hb5=>?_);obtain⟨bj,al,hb5⟩:=gJ hb5;obtain⟨ar,al⟩:=gAz al;obtain⟨bk,bl⟩:=bj;refine jK (qY ar (uM al)) ?_;exact gqZ 45 hb5
 refine goC h ?_ ?_<;>intro bu h
 ·refine goL ?_;refine yS (jU TBd.h TZ.h rfl (by repeat constructor)) ?_;exact goR h
 ·refine goS ?_;refine noB ?_;refine uO 46 5 2 2 rfl rfl (by repeat constructor) (by repeat constructor) (by repeat constructor) (by repeat constructor) ?_;show V _ _ _ _ _;refine uO 171 3 2 3 rfl rfl (by repeat constructor) (by repeat constructor) (by repeat constructor) (by repeat constructor) ?_;show V _ _ _ _ _;refine uO 41 12 2 4 rfl rfl (by repeat constructor) (by repeat constructor) (by repeat constructor) (by repeat constructor) ?_;show V _ _ _ _ _;refine uO 176 16 2 5 rfl rfl (by repeat constructor) (by repeat constructor) (by repeat constructor) (by repeat constructor) ?_;show V _ _ _ _ _;refine yP 0 1 (fun bv=>?_);refine hI6 (fun(q:Nat)(ab:List mE)(ac:List kP)(ad:List gY)(ae:List kI)(ag:Nat)(ah:Nat)(ai:Nat)(aj:Nat)=>⟨[(1,.ptr 0 0),(2,.ptr 1 0),(6,.ptr 2 0),(7,.N q)],[bSx ak aa,.box [.S [],.nilsl,.nilsl,.nilsl,.nilsl,.nilsl],.box [.S f,.L 1 (gP c),.sl 3 ag,.sl 4 ah,.sl 5 ai,.sl 6 aj],.arr 46 5 ag (uY ab),.arr 171 3 ah (pG ac),.arr 41 12 ai (pI ad),.arr 176 16 aj (pJ ae)],Tryz.f164.ntmps⟩) (fun q ab ac ad ae ag ah ai aj=>wQ (c,a8) (gD.mk f a9) (aa.drop q) ab ac ad ae=some r) (fun q ab ac ad ae ag ah ai aj=>aa.length - q) 3 [] [] [] [] 0 0 0 0 eJ h ?_;rintro q ab ac ad ae ag ah ai aj h;refine goL ?_;refine mQ (fun au=>?_) (fun au=>?_)
  ·have y:=vF au;obtain⟨bm,bb,av⟩:=drop_at y;rw [av,wQ.eq_2] at h;obtain⟨aw,ax⟩:=bm;refine noS ?_;refine kH (jE ?_);refine goL ?_;refine jK (jM q (uM bb)) ?_;obtain⟨⟨ay,am,an,ao,ap⟩,bc,h⟩:=gJ h;refine gCl [2,3,4,5,6] (gZx f c (gD.mk aw ax) ab ac ad ae ag ah ai aj bc) ?_;rintro _ _ ⟨a3,a4,a5,a6,rfl,rfl⟩;show VO _ _ _ _ ⟨(_,.B ay)::_,[bSx ak aa,.box [.S [],.nilsl,.nilsl,.nilsl,.nilsl,.nilsl],.box [.S f,.L 1 (gP c),.sl 3 a3,.sl 4 a4,.sl 5 a5,.sl 6 a6],.arr 46 5 a3 (uY am),.arr 171 3 a4 (pG an),.arr 41 12 a5 (pI ao),.arr 176 16 a6 (pJ ap)],_⟩ _;refine goC h ?_ ?_<;>intro bw h
   ·refine goL ?_;refine yS (jU TBd.h TZ.h rfl (by repeat constructor)) ?_;exact goR h
   ·refine goS ?_;refine jK (kD q (by omega)) ?_;exact⟨(q+1),am,an,ao,ap,a3,a4,a5,a6,h,by omega,eJ⟩
  ·have y:=vG au;rw [jH y,wQ.eq_1] at h;refine goX ?_;obtain⟨bx,bd,h⟩:=gJ h;refine gAc (gUo (gM8 (jX.mk f c ab ac ad ae) bd)) ?_;refine mQ (fun a7=>?_) (fun a7=>?_)
   ·replace h:=kT a7 h;refine goL ?_;refine yS (jU TBd.h TZ.h rfl (by repeat constructor)) ?_;exact goR h
   ·replace h:=kU a7 h;refine goS ?_;refine gW 3 rfl rfl ?_;refine gW 4 rfl rfl ?_;refine gW 5 rfl rfl ?_;refine gW 6 rfl rfl ?_;refine jG ?_;cases h;exact uA
def gBl(h:LB):Option (jX × Bool):=
bnd (gDp h) fun c=>
(cnd (!c.2) (
(some ((jX.mk [] [] [] [] [] []),false))) (
bnd (yL c.1) fun f=>
(some (f.1,f.2))))
theorem gPj(a0:LB){r:jX × Bool}(h:gBl a0=some r):jF Tryz.prog 140 [.S a0] [gD8 r.1,.b r.2]:=by
 unfold gBl at h;refine SpI Tryz.func140 fun A _=>?_;refine goL ?_;obtain⟨⟨⟨c,f⟩,aj⟩,ae,h⟩:=gJ h;refine jK (gG (gSm _ ae)) ?_;refine mQ (fun c2=>?_) (fun c2=>?_)
 ·replace h:=kT c2 h;refine goL ?_;refine yS (jU TBd.h TZ.h rfl (by repeat constructor)) ?_;exact goR h
 ·replace h:=kU c2 h;refine goS ?_;obtain⟨⟨⟨q,y,aa,ab,ac,ad⟩,ak⟩,ah,h⟩:=gJ h;refine qM (gG (gM9 _ ah)) ?_;exact goR h
def uK:LS→(List jX)→Option (gM × Int)
 | [],c=>(some ((gM.mk c),(-1)))
 | q::xs,c=>(cnd (gGf q) (
uK xs c) (
bnd (gBl q) fun f=>
lt_ ((cnd (!f.2) (true) (((c.length:Int)==5)))) fun h=>
(cnd h (
(some ((gM.mk []),(c.length:Int)))) (
gd (c.length+[f.1].length≤4294967296) (
uK xs (c++[f.1]))))))
def yU(s:LB):Option (gM × Int):=
bnd (gEl s 10) fun c=>
uK c []
theorem gPk(s:LB){r:gM × Int}(h:yU s=some r):Go.Eng.Spec Tryz.prog 98 [.S s] [] (fun sv Lo=>sv=.tup [.ag [.sl 0 0],.I r.2]∧Lo=[.arr 91 6 0 (kQ r.1.packages)]):=by
 unfold yU at h;refine kS 0 Tryz.func98 rfl (by kernel_rfl) rfl rfl fun A _=>?_;refine goL ?_;refine gAc (jU TBd.h TZ.h rfl (by repeat constructor)) ?_;obtain⟨x1,am,h⟩:=gJ h;refine jK (gG (gT2 _ _ am)) ?_;refine noB ?_;refine uO 91 6 1 0 rfl rfl (by repeat constructor) (by repeat constructor) (by repeat constructor) (by repeat constructor) ?_;show V _ _ _ _ _;refine gCm 5 (fun z5=>?_);refine kV (fun(y4:Nat)(y2:List jX)(v3:Nat)=>⟨[(2,.ptr 0 0),(4,.ptr 1 0),(5,.L 1 (gP x1)),(6,.N y4)],[.box [.nilsl],.box [.sl 2 v3],.arr 91 6 v3 (kQ y2)],Tryz.f98.ntmps⟩) (fun y4 y2 v3=>uK (x1.drop y4) y2=some r) (fun y4 y2 v3=>x1.length - y4) 0 [] 0 eJ h ?_;rintro y4 y2 v3 h;refine goL ?_;refine mQ (fun c6=>?_) (fun c6=>?_)
 ·have ad:=vF c6;obtain⟨x7,aj,ak⟩:=drop_at ad;rw [ak,uK.eq_2] at h;refine noS ?_;refine kH (jE ?_);refine goL ?_;refine jK (jM y4 (gNp aj)) ?_;refine jK (gG (gYs x7)) ?_;refine mQ (fun c8=>?_) (fun c8=>?_)
  ·replace h:=kT c8 h;refine goX ?_;refine jK (kD y4 (by omega)) ?_;exact⟨(y4+1),y2,v3,h,by omega,eJ⟩
  ·replace h:=kU c8 h;refine goS ?_;refine jK (jM y4 (gNp aj)) ?_;obtain⟨⟨⟨c,f,y,aa,ab,ac⟩,au⟩,ap,h⟩:=gJ h;refine jK (gG (gPj _ ap)) ?_;obtain⟨aq,hb10,h⟩:=qW h;refine kC ⟨[(2,.ptr 0 0),(4,.ptr 1 0),(5,.L 1 (gP x1)),(6,.N y4),(7,.ptr 3 0),(38,.B aq)],[.box [.nilsl],.box [.sl 2 v3],.arr 91 6 v3 (kQ y2),bPk c f y aa ab ac],Tryz.f98.ntmps⟩ ?_ ?_
   ·exact gqZ 33 hb10
   refine goC h ?_ ?_<;>intro aw h
   ·refine zK (P:=Tryz.prog) Mix.h (.q 0 (.q 1 (.h 2 (.h 3 (.h 4 (.q 5 .nil) .nil) (.h 4 (.h 3 (.q 5 .nil) .nil) .nil)) (.h 4 (.h 2 (.h 3 (.q 5 .nil) .nil) .nil) .nil)))) ⟨[(2,.ptr 0 0),(3,.I (y2.length:Int))],[.box [.nilsl],.box [.sl 2 v3],.arr 91 6 v3 (kQ y2),bPk c f y aa ab ac],Tryz.f98.ntmps⟩ (by kernel_rfl) ?_ ?_
    ·refine goT ?_;refine pR (jJ gQ) ?_ ?_
     ·refine pR (hB6 gQ) ?_ ?_
      ·refine goT ?_;refine jB ?_;exact mK 0 [0,1,2,3]
      refine goT ?_;refine gH (hB6 gQ) ?_;refine goT ?_;refine jB ?_;exact mK 0 [0,1,2,3]
     refine goT ?_;refine gH (jJ gQ) ?_;refine gH (hB6 gQ) ?_;refine goT ?_;refine jB ?_;exact mK 0 [0,1,2,3]
    refine goL ?_;refine uO 91 6 0 0 rfl rfl (by repeat constructor) (by repeat constructor) (by repeat constructor) (by repeat constructor) ?_;refine hKk (fr':=[(2,.ptr 1 0),(3,.I (y2.length:Int))]) (Lc:=[.arr 91 6 0 [],.box [.sl 0 0]]) 0 [4,0] ?_;refine jG ?_;obtain rfl:=Option.some.inj h;exact gBa [.ag [.sl 0 0],.I (y2.length:Int)] _ ⟨rfl,rfl⟩
   ·refine goS ?_;refine uQ (u:=(.st [.s c,.sl 1 (gP f),.sl 5 (uY y),.sl 3 (pG aa),.sl 12 (pI ab),.sl 16 (pJ ac)])) ?_;obtain⟨ar,h⟩:=pO h;refine gAi ar ?_;refine goL ?_;refine jK (kD y4 (by omega)) ?_;exact⟨(y4+1),(y2++[(jX.mk c f y aa ab ac)]),(v3+1),h,by omega,eJ⟩
 ·have ad:=vG c6;rw [jH ad,uK.eq_1] at h;refine goX ?_;refine hKk (fr':=[(2,.ptr 1 0),(3,.I (-1))]) (Lc:=[.arr 91 6 v3 (kQ y2),.box [.sl 0 v3]]) 0 [2,0] ?_;refine hSf (fr':=[(2,.ptr 1 0),(3,.I (-1))]) (L':=[.arr 91 6 0 (kQ y2),.box [.sl 0 0]]) 0 0 ?_;refine jG ?_;obtain rfl:=Option.some.inj h;exact gBa [.ag [.sl 0 0],.I (-1)] _ ⟨rfl,rfl⟩
theorem gZy{x:gD}(hx:wfx x=true)(hn:ndx x≤900)(hd:dpx x≤14)(hl:(fmt x).length≤4900)(hv:uC x=some true):gDp (fmt x)=some (x,true):=by
 have h:gBg 5000 ⟨fmt x,0,0,0,false⟩=some (x,⟨fmt x,((0+(fmt x).length:Nat):Int),0,0+ndx x,false⟩):=
  hDj (s:=fmt x) (by omega) x 0 5000 0 0 [] hx (by simp) (fun b t h=>by cases h) (by omega) (by omega) (by omega) (by omega) (by omega)
 unfold gDp;rw [kF h];simp only;rw [kF (hGh (.inl (by simp)))];simp only [jC];rw [show (((0+(fmt x).length:Nat):Int) !=((fmt x).length:Int))=false from by rw [Nat.zero_add];exact bne_self_eq_false _];simp only [jC,hv,bnd,Bool.not_true]
def noL(l:LB):Bool:=l.all fun b=> !((b.toNat:Int)==10)
theorem gL7(s:LB)(hl:s.length≤4294967296)(tail:LB):∀(a:LB)(p q n:Nat)(acc:LS),noL a=true→s.drop p=a++tail→pX s 10 (n+a.length) acc q (p:Int)=pX s 10 n acc q ((p+a.length:Nat):Int)
 | [],p,q,n,acc,_,_=>rfl
 | b::a,p,q,n,acc,hb,h=>by
   simp only [noL,List.all_cons,Bool.and_eq_true,Bool.not_eq_true'] at hb;obtain⟨c,f,y⟩:=gEe (by simpa using h);rw [show n+(b::a).length=(n+a.length)+1 by simp;omega,pX];rw [show decide ((p:Int)≤(s.length:Int))=true from decide_eq_true (by omega),show((p:Int)==(s.length:Int))=false from beq_eq_false_iff_ne.2 (by omega)];simp only [jV,jC,c,bnd,hb.1];rw [gW3 (by omega),gL7 s hl tail a (p+1) q n acc hb.2 f];simp only [List.length_cons];rw [show p+1+a.length=p+(a.length+1) by omega]
theorem gT5(s:LB)(hl:s.length≤4294967295)(q n:Nat)(acc:LS)(hq:q≤s.length)(ha:acc.length≤4294967295):pX s 10 (n+2) acc q (s.length:Int)=some (acc++[s.drop q]):=by
 rw [pX];rw [show decide ((s.length:Int)≤(s.length:Int))=true from decide_eq_true (by omega),beq_self_eq_true];simp only [jV,bnd];rw [uF ⟨by omega,by omega,by omega⟩,uF (by simp;omega),gW3 (by omega),pX,show decide (((s.length+1:Nat):Int)≤(s.length:Int))=false from decide_eq_false (by omega)];simp only [jC,Int.toNat_natCast];rw [List.take_of_length_le (by simp)]
theorem hEf(s:LB)(hl:s.length≤4294967295)(p q n:Nat)(acc:LS){t:LB}(h:s.drop p=10::t)(hq:q≤p)(ha:acc.length≤4294967295):pX s 10 (n+1) acc q (p:Int)=pX s 10 n (acc++[(s.drop q).take (p - q)]) ((p+1:Nat):Int) ((p+1:Nat):Int):=by
 obtain⟨c,f,y⟩:=gEe h;rw [pX];rw [show decide ((p:Int)≤(s.length:Int))=true from decide_eq_true (by omega),show((p:Int)==(s.length:Int))=false from beq_eq_false_iff_ne.2 (by omega)];simp only [jV,jC,c,bnd];rw [show ((((10:UInt8).toNat:Nat):Int)==10)=true from by decide];simp only [jV];rw [uF ⟨by omega,by omega,by omega⟩,uF (by simp;omega),gW3 (by omega)];simp only [Int.toNat_natCast]
theorem hKy(l:LB)(h:noL l=true)(hl:l.length≤4900):gEl l 10=some [l]:=by
 have c:=gL7 l (by omega) [] l 0 0 (5000 - l.length) [] h (by simp);have f:=gT5 l (by omega) 0 (5000 - l.length - 2) [] (by omega) (by simp);unfold gEl gE9;rw [show 5000 - l.length+l.length=5000 by omega,Nat.zero_add] at c;rw [show 5000 - l.length - 2+2=5000 - l.length by omega] at f;exact(c.trans f).trans (by simp)
theorem hKz(l m:LB)(h:noL l=true)(h':noL m=true)(hl:l.length+m.length≤4900):gEl (l++[10]++m) 10=some [l,m]:=by
 have hs:(l++[10]++m).length=l.length+1+m.length:=by simp;omega
 have f:=gL7 (l++[10]++m) (by omega) (10::m) l 0 0 (5000 - l.length) [] h (by simp);have c:=hEf (l++[10]++m) (by omega) l.length 0 (4999 - l.length) [] (t:=m) (by simp) (by omega) (by simp);have q:=gL7 (l++[10]++m) (by omega) [] m (l.length+1) (l.length+1) (4999 - l.length - m.length) [l] h' (by simp [List.drop_append]);have y:=gT5 (l++[10]++m) (by omega) (l.length+1) (4997 - l.length - m.length) [l] (by omega) (by simp);unfold gEl gE9;rw [show 5000 - l.length+l.length=5000 by omega,Nat.zero_add] at f;rw [show 4999 - l.length+1=5000 - l.length by omega] at c;rw [show 4999 - l.length - m.length+m.length=4999 - l.length by omega] at q;rw [show 4997 - l.length - m.length+2=4999 - l.length - m.length by omega,hs] at y;have h5:(List.drop 0 (l++[10]++m)).take (l.length - 0)=l:=by simp
 rw [h5,List.nil_append] at c;refine((f.trans c).trans (q.trans y)).trans ?_;simp [List.drop_append]
def hNa(x:gD)(m:Nat)(good:jX→Bool):Bool:=
 wfx x && decide (ndx x≤900) && decide (dpx x≤14) && decide ((fmt x).length≤m) && noL (fmt x) && !(gGf (fmt x)) && (uC x==some true) && (match yL x with | some (p,true)=>good p | _=>false)
theorem gZz{x:gD}{m:Nat}{good:jX→Bool}(hm:m≤4900)(h:hNa x m good=true):∃p,gBl (fmt x)=some (p,true)∧yL x=some (p,true)∧good p=true∧gGf (fmt x)=false∧noL (fmt x)=true∧(fmt x).length≤m:=by
 unfold hNa at h;simp only [Bool.and_eq_true,decide_eq_true_eq,Bool.not_eq_true',beq_iff_eq] at h;obtain⟨⟨⟨⟨⟨⟨⟨f,q⟩,y⟩,h4⟩,h5⟩,h6⟩,h7⟩,c⟩:=h;split at c
 ·rename_i p hp;refine⟨p,?_,hp,c,h6,h5,h4⟩;unfold gBl;rw [kF (gZy f q y (by omega) h7)];simp only [Bool.not_true,jC,hp,bnd]
 ·cases c
def ikB(i:gY):Bool:=
 (((i.trait==gJp) || ((i.trait==eqN) || ((i.trait==hKj) || ((i.trait==hF7) && (i.where_.isEmpty && ((i.head.kind==2) && i.head.args.isEmpty)))))) && (decide (tok i.head) && decide (tnd i.head≤40000)))
 && ((!((i.trait==eqN) || (i.trait==hF7)) || (decide (i.where_.length≤4) && i.where_.all fun b=>((b.trait==eqN) || (b.trait==hF7)) && ((b.type_.kind==1) && b.type_.args.isEmpty)))
 && (match gKd i with | some j=>(j.trait==i.trait) && (teq j.head i.head && (!i.where_.isEmpty || j.where_.isEmpty)) | none=>false))
theorem hGs{t:gB}(hk:t.kind≠4)(ha:t.args.isEmpty=true):tok t∧dyS t∧tnd t≤1∧ed t=0:=by
 obtain⟨k,s,ts⟩:=t;obtain rfl:ts=[]:=List.isEmpty_iff.1 ha;exact⟨gTx _ _,⟨fun h=>absurd h hk,trivial⟩,by simp [tnd,gGj],by simp [ed,eds]⟩
theorem hK0{i:gY}(h:ikB i=true):IK i:=by
 unfold ikB at h;simp only [Bool.and_eq_true,Bool.or_eq_true,beq_iff_eq,decide_eq_true_eq,Bool.not_eq_true',List.all_eq_true] at h;obtain⟨⟨f,h2,h3⟩,q,h5⟩:=h;refine⟨?_,h2,h3,fun he=>?_,?_⟩
 ·rcases f with f | f | f | ⟨f,y,h7,c⟩
  ·exact .inl f
  ·exact .inr (.inl f)
  ·exact .inr (.inr (.inl f))
  ·obtain⟨k1,k2,k3,k4⟩:=hGs (t:=i.head) (by rw [h7];decide) c;exact .inr (.inr (.inr ⟨f,List.isEmpty_iff.1 y,k1,k2,by simpa using k3,by omega⟩))
 ·rcases q with q | ⟨q,y⟩
  ·rcases he with he | he<;>rw [he] at q<;>cases q
  ·refine⟨q,fun b hb=>?_⟩;obtain⟨h7,c,h9⟩:=y b hb;obtain⟨k1,k2,k3,k4⟩:=hGs (t:=b.type_) (by rw [c];decide) h9;exact⟨h7,k1,k2,by omega⟩
 ·split at h5
  ·rename_i j hj;simp only [Bool.and_eq_true,Bool.or_eq_true,beq_iff_eq,Bool.not_eq_true'] at h5;obtain⟨y,h7,c⟩:=h5;refine⟨j,hj,y,(hDa _ _).1 h7,fun h0=>?_⟩;rcases c with c | c
   ·rw [h0] at c;cases c
   ·exact List.isEmpty_iff.1 c
  ·cases h5
def pkB(p:jX):Bool:=decide (p.instances.length≤100) && p.instances.all ikB
theorem hGt{p:jX}(h:pkB p=true):PK p:=by
 unfold pkB at h;simp only [Bool.and_eq_true,decide_eq_true_eq,List.all_eq_true] at h;exact⟨h.1,fun i hi=>hK0 (h.2 i hi)⟩
def okC(b:Bool):Bool:=hNa (gT0 b) 3000 pkB
def okA:Bool:=hDq.all fun h=>hDr.all fun m=>[[],hJ7].all fun c=>[[],hJ8].all fun f=>[[],hJ9].all fun q=>hNa (hKd h m c f q) 1500 pkB
theorem hO9:okC true=true:=by kernel_rfl
theorem hPa:okC false=true:=by kernel_rfl
def gJv(c:gN):Option (gM × gN):=
bnd (gE8 c) fun f=>
bnd (yU f.1) fun h=>
(some (h.1,f.2))
theorem gZ0(c:gN){r:gM × gN}(h:gJv c=some r):Go.Eng.Spec Tryz.prog 68 [.ptr 0 0] [bCu c.b c.i c.h] (fun sv Lo=>sv=.ag [.sl 1 0]∧Lo=[bCu r.2.b r.2.i r.2.h,.arr 91 6 0 (kQ r.1.packages)]):=by
 obtain⟨ad,ae,ah⟩:=c;unfold gJv at h;refine kS 1 Tryz.func68 rfl (by kernel_rfl) rfl rfl fun A _=>?_;refine goL ?_;obtain⟨⟨ab,⟨f,q,y⟩⟩,ai,h⟩:=gJ h;refine mZ 0 (gRn (gN.mk ad ae ah) ai) ?_;obtain⟨⟨⟨aa⟩,ac⟩,aj,h⟩:=gJ h;refine gCl [] (gPk ab aj) ?_;rintro _ _ ⟨rfl,rfl⟩;show VO _ _ _ _ ⟨(_,.tup [.ag [.sl 2 0],.I ac])::_,[bCu f q y,.box [.nilsl],.arr 91 6 0 (kQ aa)],_⟩ _;refine goL ?_;refine hKk (fr':=[(2,.ptr 2 0)]) (Lc:=[bCu f q y,.arr 91 6 0 (kQ aa),.box [.sl 1 0]]) 1 [0,2,1] ?_;refine jG ?_;obtain rfl:=Option.some.inj h;exact gBa [.ag [.sl 1 0]] _ ⟨rfl,rfl⟩
end Go.Proofs.YtfpdlnkkcnmebaaGreat
