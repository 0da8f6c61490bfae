import Derived.Test.YtegahmhnmjnhhaaGreatB20
set_option maxHeartbeats 4000000
set_option linter.unusedVariables false
set_option linter.unusedSimpArgs false
set_option linter.unusedSectionVars false
namespace Go.Proofs.YtegahmhnmjnhhaaGreat
open Go Go.Eng
attribute [local irreducible] V VO VQ VY Quiet QR jC kT Rng mU mV mI
def wF(a0:gD)(x2:List (List UInt8))(x3:gD)(x5:List (List UInt8)):List gD→(List qJ)→Option (qV × Bool)
 | [],y7=>bnd (bnd (qK a0) fun ai=>
(cnd (!ai) ((some true)) ((cnd ((a0.list.length:Int)==0) ((some true)) (bnd (gG7 (qV.mk x3.atom x5 (wQ x2 [97,117,116,111]) (wQ x2 [97,115,115,111,99]) y7)) fun aj=>
bnd (gCl 5000 aj a0) fun ak=>
(some (!ak))))))) fun al=>
(cnd al (
(some ((qV.mk [] [] false false []),false))) (
(some ((qV.mk x3.atom x5 (wQ x2 [97,117,116,111]) (wQ x2 [97,115,115,111,99]) y7),true))))
 | c::xs,y7=>bnd (qL c 0) fun f=>
bnd (qL c 1) fun am=>
bnd (gQk am.list) fun h=>
bnd (qL c 2) fun an=>
bnd (gMs 5000 an) fun y=>
(cnd (decide ((c.list.length:Int) > 3)) (
bnd (qL c 3) fun ao=>
bnd (gCn ao) fun ad=>
bnd (qL c 4) fun ap=>
bnd (gFl 5000 ap) fun ae=>
gd (y7.length+[(qJ.mk f.atom h y true ad ae)].length≤4294967296) (
wF a0 x2 x3 x5 xs (y7++[(qJ.mk f.atom h y true ad ae)]))) (
gd (y7.length+[(qJ.mk f.atom h y false [] (kJ.mk 0 [] [] 0 (gB.mk 0 [] []) [] []))].length≤4294967296) (
wF a0 x2 x3 x5 xs (y7++[(qJ.mk f.atom h y false [] (kJ.mk 0 [] [] 0 (gB.mk 0 [] []) [] []))]))))
def gHv(c:gD):Option (qV × Bool):=
bnd (qL c 3) fun f=>
bnd (gCn f) fun h=>
bnd (qL c 1) fun y=>
bnd (qL c 2) fun x4=>
bnd (gCn x4) fun x5=>
bnd (gI7 c 4) fun x6=>
wF c h y x5 x6 []
theorem gS2(a0:gD){r:qV × Bool}(h:gHv a0=some r):jC Tryz.prog 132 [.d (pF a0)] [gMu r.1,.b r.2]:=by
 obtain⟨aj,ak⟩:=a0;unfold gHv at h;refine SpI Tryz.func132 fun A _=>?_;refine goL ?_;obtain⟨⟨cc,cd⟩,bm,h⟩:=gP h;refine qI (gF (qY _ _ bm)) ?_;obtain⟨x2,bn,h⟩:=gP h;refine qI (gF (gEr _ bn)) ?_;refine gH2 ?_;refine jO (P:=Tryz.prog) Mix.h [(0,true),(1,true),(2,true),(3,true),(4,true),(5,true),(6,true),(7,true),(8,true),(9,true),(10,true),(11,false),(12,false)] (by kernel_rfl) ?_;refine goY ?_;obtain⟨⟨ai,a6⟩,bo,h⟩:=gP h;refine jI rfl (gF (qY _ _ bo)) ?_;refine jI rfl (gIi) ?_;refine goY ?_;obtain⟨⟨ce,cf⟩,bp,h⟩:=gP h;refine jI rfl (gF (qY _ _ bp)) ?_;obtain⟨x5,bq,h⟩:=gP h;refine jI rfl (gF (gEr _ bq)) ?_;refine goY ?_;refine jI rfl (gF (gF4 x2 [97,117,116,111])) ?_;refine goY ?_;refine jI rfl (gF (gF4 x2 [97,115,115,111,99])) ?_;refine goY ?_;refine kQ ?_;refine goL ?_;obtain⟨x6,bt,h⟩:=gP h;refine jL (gF (gNy _ _ bt)) ?_;refine noB ?_;refine wT 235 16 2 4 rfl rfl (by repeat constructor) (by repeat constructor) (by repeat constructor) (by repeat constructor) ?_;show V _ _ _ _ _;refine gBx 6 (fun cg=>?_);refine kS (fun(y9:Nat) (y7:List qJ) (v8:Nat)=>⟨[(1,.ptr 0 0),(2,.ptr 1 0),(5,.ptr 2 0),(6,.L 2 (jA x6)),(7,.N y9)],[bSx aj ak,.box [.S [],.nilsl,.B false,.B false,.nilsl],.box [.S ai,.L 1 (jP x5),.B (wQ x2 [97,117,116,111]),.B (wQ x2 [97,115,115,111,99]),.sl 3 v8],.arr 235 16 v8 (gB9 y7)],Tryz.f132.ntmps⟩) (fun y9 y7 v8=>wF (gD.mk aj ak) x2 (gD.mk ai a6) x5 (x6.drop y9) y7=some r) (fun y9 y7 v8=>x6.length - y9) 0 [] 0 eJ h ?_;rintro y9 y7 v8 h;refine goL ?_;refine kX (fun ax=>?_) (fun ax=>?_)
 ·have ah:=uR ax;obtain⟨bu,c,ay⟩:=drop_at ah;rw [ay,wF.eq_2] at h;obtain⟨bv,bw⟩:=bu;refine noS ?_;refine jW (jE ?_);refine jO (P:=Tryz.prog) Mix.h [(0,true),(1,true),(2,true),(3,true),(4,true),(5,true),(6,true),(7,true),(8,true),(9,true),(10,true),(11,true),(12,true),(13,true),(14,true),(15,true),(16,true),(17,true),(18,true),(19,true),(20,false),(21,false)] (by kernel_rfl) ?_;refine goY ?_;refine jI rfl (jM y9 (uG c)) ?_;refine goY ?_;obtain⟨⟨f,bx⟩,a7,h⟩:=gP h;refine jI rfl (gF (qY _ _ a7)) ?_;refine jI rfl (gIi) ?_;refine goY ?_;refine jI rfl (jM y9 (uG c)) ?_;refine goY ?_;obtain⟨⟨bz,b0⟩,a8,h⟩:=gP h;refine jI rfl (gF (qY _ _ a8)) ?_;refine jI rfl (gIi) ?_;obtain⟨aw,a9,h⟩:=gP h;refine jI rfl (gF (hCa _ a9)) ?_;refine goY ?_;refine jI rfl (jM y9 (uG c)) ?_;refine goY ?_;obtain⟨⟨b1,b2⟩,ba,h⟩:=gP h;refine jI rfl (gF (qY _ _ ba)) ?_;obtain⟨⟨y,aa,ab⟩,bb,h⟩:=gP h;refine jI rfl (gF (gPs _ _ bb)) ?_;refine goY ?_;refine kQ ?_;refine goL ?_;refine jL (jM y9 (uG c)) ?_;refine kX (fun a3=>?_) (fun a3=>?_)
  ·replace h:=kD a3 h;refine goL ?_;refine jL (jM y9 (uG c)) ?_;obtain⟨⟨b3,b4⟩,bc,h⟩:=gP h;refine qI (gF (qY _ _ bc)) ?_;obtain⟨bd,be,h⟩:=gP h;refine jL (gF (gEr _ be)) ?_;refine jL (jM y9 (uG c)) ?_;obtain⟨⟨b5,b6⟩,bf,h⟩:=gP h;refine qI (gF (qY _ _ bf)) ?_;obtain⟨⟨al,am,an,ao,⟨ac,ad,ae⟩,ap,aq⟩,bg,h⟩:=gP h;refine jL (gF (gRw _ _ bg)) ?_;refine gAk (u:=(.st [.s f,.sl 3 (jJ aw),.st [.i .i64 y,.s aa,.sl 3 (jJ ab)],.b true,.sl 1 (jP bd),.st [.i .i64 al,.s am,.s an,.i .i64 ao,.st [.i .i64 ac,.s ad,.sl 3 (jJ ae)],.sl 9 (gB8 ap),.sl 11 (gKw aq)]])) ?_;obtain⟨b7,h⟩:=mW h;refine gBd b7 ?_;refine goL ?_;refine jL (jR y9 (by omega)) ?_;exact⟨(y9+1),(y7++[(qJ.mk f aw (gB.mk y aa ab) true bd (kJ.mk al am an ao (gB.mk ac ad ae) ap aq))]),(v8+1),h,by omega,eJ⟩
  ·replace h:=kE a3 h;refine goS ?_;refine gAk (u:=(.st [.s f,.sl 3 (jJ aw),.st [.i .i64 y,.s aa,.sl 3 (jJ ab)],.b false,.sl 1 [],.st [.i .i64 0,.s [],.s [],.i .i64 0,.st [.i .i64 0,.s [],.sl 3 []],.sl 9 [],.sl 11 []]])) ?_;obtain⟨b8,h⟩:=mW h;refine gBd b8 ?_;refine goL ?_;refine jL (jR y9 (by omega)) ?_;exact⟨(y9+1),(y7++[(qJ.mk f aw (gB.mk y aa ab) false [] (kJ.mk 0 [] [] 0 (gB.mk 0 [] []) [] []))]),(v8+1),h,by omega,eJ⟩
 ·have ah:=uS ax;rw [jF ah,wF.eq_1] at h;refine noX ?_;refine gH2 ?_;refine kN 3 rfl rfl ?_;obtain⟨b9,hb25,h⟩:=gP h;refine uJ (P:=Tryz.prog) Mix.h ⟨[(2,.ptr 1 0),(5,.ptr 2 0),(94,.B b9)],[bSx aj ak,.box [.S [],.nilsl,.B false,.B false,.nilsl],.box [.S ai,.L 1 (jP x5),.B (wQ x2 [97,117,116,111]),.B (wQ x2 [97,115,115,111,99]),.sl 3 v8],.frz 235 16 v8 (gB9 y7)],Tryz.f132.ntmps⟩ (by kernel_rfl) ?_ ?_
  ·refine goL ?_;obtain⟨ch,bh,hb25⟩:=gP hb25;refine gE7 (gF (yL _ bh)) ?_;refine goL ?_;refine yQ 82 (fun a4=>?_) (fun a4=>?_)
   ·replace hb25:=kD a4 hb25;refine goL ?_;cases hb25;exact eJ
   ·replace hb25:=kE a4 hb25;refine goL ?_;refine yQ 88 (fun a5=>?_) (fun a5=>?_)
    ·replace hb25:=kD a5 hb25;refine goL ?_;cases hb25;exact eJ
    ·replace hb25:=kE a5 hb25;refine goL ?_;obtain⟨⟨ca,cb⟩,bi,hb25⟩:=gP hb25;refine hM6 (hHy (gRq (qV.mk ai x5 (wQ x2 [97,117,116,111]) (wQ x2 [97,115,115,111,99]) y7) bi)) ?_;refine goL ?_;obtain⟨ci,bj,hb25⟩:=gP hb25;refine gDf (gF (gGg _ _ _ bj)) ?_;refine goL ?_;cases hb25;exact eJ
  refine goC h ?_ ?_<;>intro cj h
  ·refine goL ?_;refine gAq (jU TBd.h TZ.h rfl (by repeat constructor)) ?_;exact goR h
  ·refine goS ?_;refine jK ?_;cases h;exact qA
def gEy(c:kI):Option (Bool):=
bnd (gPp c) fun f=>
bnd ((cnd (!(mF c.name)) ((some true)) (bnd (yG c.deps 5) fun x4=>
(cnd (!x4) ((some true)) ((cnd (wQ c.deps c.name) ((some true)) ((some (decide ((IntKind.i64.wrap ((IntKind.i64.wrap ((IntKind.i64.wrap ((c.traits.length:Int)+(c.dataTypes.length:Int)))+(c.instances.length:Int)))+(c.functions.length:Int))) > 24)))))))))) fun b2=>
(cnd b2 (
(some false)) (
bnd (wV f.1) fun x8=>
bnd ((cnd x8 (bnd (wV f.2.1) fun h=>
(cnd h (bnd (wV f.2.2.1) fun y=>
(cnd y (bnd (wV f.2.2.2) fun aa=>
(cnd aa (bnd (gOz c) fun ab=>
(some ab)) ((some false)))) ((some false)))) ((some false)))) ((some false)))) fun b9=>
(some b9)))
theorem gPk(a0:kI){r:Bool}(h:gEy a0=some r):jC Tryz.prog 115 [.d (gE8 a0)] [.b r]:=by
 obtain⟨c,f,y,aa,ab,ac⟩:=a0;unfold gEy at h;refine SpI Tryz.func115 fun A _=>?_;refine goL ?_;obtain⟨⟨ad,ae,ag,ah⟩,an,h⟩:=gP h;refine jL (gF (hFc _ an)) ?_;refine jL (gF (qD c)) ?_;obtain⟨b2,hb2,h⟩:=gP h;refine jT ⟨[(1,.ptr 0 0),(3,.L 1 (jP ad)),(4,.L 1 (jP ae)),(5,.L 1 (jP ag)),(6,.L 1 (jP ah)),(48,.B b2)],[bPk c f y aa ab ac],Tryz.f115.ntmps⟩ ?_ ?_
 ·refine gqO 18 hb2 (fun c3 hb2=>?_);obtain⟨x4,ao,hb2⟩:=gP hb2;refine jL (gF (gAb _ _ ao)) ?_;refine gqO 24 hb2 (fun c5 hb2=>?_);refine jL (gF (gF4 f c)) ?_;refine gqO 31 hb2 (fun c6 hb2=>?_);refine jL (pR) ?_;refine gQp ?_;refine jL (pR) ?_;refine gQp ?_;refine jL (pR) ?_;cases hb2;exact eJ
 refine goC h ?_ ?_<;>intro c7 h
 ·exact goR h
 ·refine goS ?_;obtain⟨x8,ap,h⟩:=gP h;refine jL (gF (gBh _ ap)) ?_;obtain⟨b9,hb9,h⟩:=gP h;refine jT ⟨[(2,.B b9)],[bPk c f y aa ab ac],Tryz.f115.ntmps⟩ ?_ ?_
  ·refine gqA 51 hb9 (fun au hb9=>?_);obtain⟨av,ai,hb9⟩:=gP hb9;refine jL (gF (gBh _ ai)) ?_;refine gqA 55 hb9 (fun aw hb9=>?_);obtain⟨ax,aj,hb9⟩:=gP hb9;refine jL (gF (gBh _ aj)) ?_;refine gqA 59 hb9 (fun ay hb9=>?_);obtain⟨a3,ak,hb9⟩:=gP hb9;refine jL (gF (gBh _ ak)) ?_;refine gqA 63 hb9 (fun a4 hb9=>?_);obtain⟨a5,al,hb9⟩:=gP hb9;refine jL (gF (hEg _ al)) ?_;cases hb9;exact eJ
  exact goR h
def gS3(nm:List UInt8)(deps:List (List UInt8))(x:gD)(f:List qV)(h:List mJ)(y:List kG)(l4:List mH):Option (Bool × List qV × List mJ × List kG × List mH):=
bnd (qL x 0) fun x1=>
(cnd (x1.atom==[116,114,97,105,116]) (
bnd (gHv x) fun x3=>
gd (f.length+[x3.1].length≤4294967296) (
(some (x3.2,(f++[x3.1]),h,y,l4)))) (
(cnd (x1.atom==[100,97,116,97]) (
bnd (gEh x) fun x6=>
gd (h.length+[x6.1].length≤4294967296) (
(some (x6.2,f,(h++[x6.1]),y,l4)))) (
(cnd (x1.atom==[105,110,115,116]) (
bnd (gD3 x) fun x9=>
gd (y.length+[x9.1].length≤4294967296) (
(some (x9.2,f,h,(y++[x9.1]),l4)))) (
(cnd (x1.atom==[102,110]) (
bnd (gD4 x) fun c=>
gd (l4.length+[c.1].length≤4294967296) (
(some (c.2,f,h,y,(l4++[c.1]))))) (
(some (false,f,h,y,l4))))))))))
theorem hJn(nm:List UInt8)(deps:List (List UInt8))(x:gD)(l1:List qV)(l2:List mJ)(l3:List kG)(l4:List mH)(v1:Nat)(v2:Nat)(v3:Nat)(v4:Nat){r:Bool × List qV × List mJ × List kG × List mH}(h:gS3 nm deps x l1 l2 l3 l4=some r):Go.Eng.Spec Tryz.prog 114 [.ptr 0 0,.d (pF x)] [.box [.S nm,.L 1 (jP deps),.sl 1 v1,.sl 2 v2,.sl 3 v3,.sl 4 v4],.arr 173 5 v1 (gBm l1),.arr 195 3 v2 (uM l2),.arr 181 12 v3 (uN l3),.arr 205 16 v4 (uO l4)] (fun sv Lo=>∃v'1 v'2 v'3 v'4,sv=.B r.1∧Lo=[.box [.S nm,.L 1 (jP deps),.sl 1 v'1,.sl 2 v'2,.sl 3 v'3,.sl 4 v'4],.arr 173 5 v'1 (gBm r.2.1),.arr 195 3 v'2 (uM r.2.2.1),.arr 181 12 v'3 (uN r.2.2.2.1),.arr 205 16 v'4 (uO r.2.2.2.2)]):=by
 obtain⟨bq,br⟩:=x;unfold gS3 at h;refine kM 5 Tryz.func114 rfl (by kernel_rfl) rfl rfl fun A _=>?_;refine goL ?_;obtain⟨⟨b0,b1⟩,bt,h⟩:=gP h;refine qI (gF (qY _ _ bt)) ?_;refine jL (gIi) ?_;refine jE ?_;refine goC h ?_ ?_<;>intro c2 h
 ·refine goL ?_;obtain⟨⟨⟨a3,a4,a5,a6,a7⟩,bm⟩,bu,h⟩:=gP h;refine qI (gF (gS2 _ bu)) ?_;refine gH2 ?_;refine jO (P:=Tryz.prog) Mix.h [(0,true),(1,true),(2,true),(3,true),(4,true),(5,true),(6,false),(7,false),(8,true),(9,true),(10,false)] (by kernel_rfl) ?_;refine goY ?_;refine qE (T:=105) (us:=gBm [(qV.mk a3 a4 a5 a6 a7)]) ?_;obtain⟨g4,h⟩:=mW h;refine pV (T:=105) g4 ?_;refine goY ?_;refine kQ ?_;refine goL ?_;refine jK ?_;obtain rfl:=Option.some.inj h;exact zB [.B bm] [.box [.S nm,.L 1 (jP deps),.sl 1 (v1+1),.sl 2 v2,.sl 3 v3,.sl 4 v4],.arr 173 5 (v1+1) (gBm (l1++[(qV.mk a3 a4 a5 a6 a7)])),.arr 195 3 v2 (uM l2),.arr 181 12 v3 (uN l3),.arr 205 16 v4 (uO l4)] ⟨(v1+1),v2,v3,v4,rfl,rfl⟩
 ·refine goC h ?_ ?_<;>intro c5 h
  ·refine goL ?_;obtain⟨⟨⟨a8,a9,ba⟩,bn⟩,bv,h⟩:=gP h;refine qI (gF (gOd _ bv)) ?_;refine gH2 ?_;refine jO (P:=Tryz.prog) Mix.h [(0,true),(1,true),(2,true),(3,true),(4,true),(5,true),(6,false),(7,false),(8,true),(9,true),(10,false)] (by kernel_rfl) ?_;refine goY ?_;refine qE (T:=106) (us:=uM [(mJ.mk a8 a9 ba)]) ?_;obtain⟨g7,h⟩:=mW h;refine pV (T:=106) g7 ?_;refine goY ?_;refine kQ ?_;refine goL ?_;refine jK ?_;obtain rfl:=Option.some.inj h;exact zB [.B bn] [.box [.S nm,.L 1 (jP deps),.sl 1 v1,.sl 2 (v2+1),.sl 3 v3,.sl 4 v4],.arr 173 5 v1 (gBm l1),.arr 195 3 (v2+1) (uM (l2++[(mJ.mk a8 a9 ba)])),.arr 181 12 v3 (uN l3),.arr 205 16 v4 (uO l4)] ⟨v1,(v2+1),v3,v4,rfl,rfl⟩
  ·refine goC h ?_ ?_<;>intro c8 h
   ·refine goL ?_;obtain⟨⟨⟨bb,bc,⟨ak,al,am⟩,bd,be,bf,⟨an,ao,ap⟩,bg⟩,bo⟩,bw,h⟩:=gP h;refine qI (gF (gNw _ bw)) ?_;refine gH2 ?_;refine jO (P:=Tryz.prog) Mix.h [(0,true),(1,true),(2,true),(3,true),(4,true),(5,true),(6,false),(7,false),(8,true),(9,true),(10,false)] (by kernel_rfl) ?_;refine goY ?_;refine qE (T:=107) (us:=uN [(kG.mk bb bc (gB.mk ak al am) bd be bf (gB.mk an ao ap) bg)]) ?_;obtain⟨bx,h⟩:=mW h;refine pV (T:=107) bx ?_;refine goY ?_;refine kQ ?_;refine goL ?_;refine jK ?_;obtain rfl:=Option.some.inj h;exact zB [.B bo] [.box [.S nm,.L 1 (jP deps),.sl 1 v1,.sl 2 v2,.sl 3 (v3+1),.sl 4 v4],.arr 173 5 v1 (gBm l1),.arr 195 3 v2 (uM l2),.arr 181 12 (v3+1) (uN (l3++[(kG.mk bb bc (gB.mk ak al am) bd be bf (gB.mk an ao ap) bg)])),.arr 205 16 v4 (uO l4)] ⟨v1,v2,(v3+1),v4,rfl,rfl⟩
   ·refine goC h ?_ ?_<;>intro b4 h
    ·refine goL ?_;obtain⟨⟨⟨aw,ax,ay,a0,⟨aa,ab,ac⟩,⟨ad,ae,ag,ah,⟨c,f,y⟩,ai,aj⟩⟩,bl⟩,bp,h⟩:=gP h;refine qI (gF (gNx (gD.mk bq br) bp)) ?_;refine gH2 ?_;refine jO (P:=Tryz.prog) Mix.h [(0,true),(1,true),(2,true),(3,true),(4,true),(5,true),(6,false),(7,false),(8,true),(9,true),(10,false)] (by kernel_rfl) ?_;refine goY ?_;refine qE (T:=108) (us:=uO [(mH.mk aw ax ay a0 (gB.mk aa ab ac) (kJ.mk ad ae ag ah (gB.mk c f y) ai aj))]) ?_;obtain⟨bz,h⟩:=mW h;refine pV (T:=108) bz ?_;refine goY ?_;refine kQ ?_;refine goL ?_;refine jK ?_;obtain rfl:=Option.some.inj h;exact zB [.B bl] [.box [.S nm,.L 1 (jP deps),.sl 1 v1,.sl 2 v2,.sl 3 v3,.sl 4 (v4+1)],.arr 173 5 v1 (gBm l1),.arr 195 3 v2 (uM l2),.arr 181 12 v3 (uN l3),.arr 205 16 (v4+1) (uO (l4++[(mH.mk aw ax ay a0 (gB.mk aa ab ac) (kJ.mk ad ae ag ah (gB.mk c f y) ai aj))]))] ⟨v1,v2,v3,(v4+1),rfl,rfl⟩
    ·refine goS ?_;refine jK ?_;obtain rfl:=Option.some.inj h;exact zB [.B false] [.box [.S nm,.L 1 (jP deps),.sl 1 v1,.sl 2 v2,.sl 3 v3,.sl 4 v4],.arr 173 5 v1 (gBm l1),.arr 195 3 v2 (uM l2),.arr 181 12 v3 (uN l3),.arr 205 16 v4 (uO l4)] ⟨v1,v2,v3,v4,rfl,rfl⟩
def wP(x2:List (List UInt8) × Bool)(x3:gD):List gD→(List qV)→(List mJ)→(List kG)→(List mH)→Option (kI × Bool)
 | [],f,h,y,aa=>bnd (gEy (kI.mk x3.atom x2.1 f h y aa)) fun ad=>
(cnd (!ad) (
(some ((kI.mk [] [] [] [] [] []),false))) (
(some ((kI.mk x3.atom x2.1 f h y aa),true))))
 | ae::xs,f,h,y,aa=>bnd (gS3 x3.atom x2.1 ae f h y aa) fun c=>
(cnd (!c.1) (
(some ((kI.mk [] [] [] [] [] []),false))) (
wP x2 x3 xs c.2.1 c.2.2.1 c.2.2.2.1 c.2.2.2.2))
def yK(c:gD):Option (kI × Bool):=
bnd (qL c 2) fun y=>
bnd (gK3 y.list) fun h=>
bnd (qL c 1) fun x3=>
bnd (qK c) fun x4=>
bnd ((cnd (!x4) ((some true)) ((cnd (decide ((c.list.length:Int) < 3)) ((some true)) (bnd (at? c.list 0) fun x8=>
(cnd (!(x8.atom==[112,97,99,107,97,103,101])) ((some true)) (bnd (at? c.list 2) fun f=>
(cnd (!(f.atom==[])) ((some true)) ((some (!h.2))))))))))) fun b5=>
(cnd b5 (
(some ((kI.mk [] [] [] [] [] []),false))) (
wP h x3 (c.list.drop 3) [] [] [] []))
theorem gPl(a0:gD){r:kI × Bool}(h:yK a0=some r):jC Tryz.prog 95 [.d (pF a0)] [gE8 r.1,.b r.2]:=by
 obtain⟨al,ab⟩:=a0;unfold yK at h;refine SpI Tryz.func95 fun A _=>?_;refine goL ?_;obtain⟨⟨bo,bp⟩,bg,h⟩:=gP h;refine qI (gF (qY _ _ bg)) ?_;refine qI (gIi) ?_;obtain⟨⟨c,a9⟩,bh,h⟩:=gP h;refine jL (gF (gRn _ bh)) ?_;obtain⟨⟨f,ba⟩,bi,h⟩:=gP h;refine qI (gF (qY _ _ bi)) ?_;refine jL (gIi) ?_;refine gBn (jU TBd.h TZ.h rfl (by repeat constructor)) ?_;obtain⟨x4,bj,h⟩:=gP h;refine jL (gF (yL _ bj)) ?_;obtain⟨b5,hb5,h⟩:=gP h;refine jT ⟨[(1,.ptr 0 0),(2,.ptr 1 0),(6,.ptr 2 0),(48,.B b5)],[bSx al ab,.box [.S [],.nilsl,.nilsl,.nilsl,.nilsl,.nilsl],.box [.S f,.L 1 (jP c),.nilsl,.nilsl,.nilsl,.nilsl]],Tryz.f95.ntmps⟩ ?_ ?_
 ·refine gqO 23 hb5 (fun c6 hb5=>?_);refine gqO 29 hb5 (fun c7 hb5=>?_);obtain⟨x8,ar,hb5⟩:=gP hb5;obtain⟨bb,ar⟩:=gEd ar;obtain⟨bq,br⟩:=x8;refine jL (qP bb (uG ar)) ?_;refine gqO 37 hb5 (fun c9 hb5=>?_);obtain⟨bk,am,hb5⟩:=gP hb5;obtain⟨au,am⟩:=gEd am;obtain⟨bl,bm⟩:=bk;refine jL (qP au (uG am)) ?_;exact gqZ 45 hb5
 refine goC h ?_ ?_<;>intro bv h
 ·refine goL ?_;refine gAq (jU TBd.h TZ.h rfl (by repeat constructor)) ?_;exact goR h
 ·refine goS ?_;refine noB ?_;refine wT 173 5 2 2 rfl rfl (by repeat constructor) (by repeat constructor) (by repeat constructor) (by repeat constructor) ?_;show V _ _ _ _ _;refine wT 195 3 2 3 rfl rfl (by repeat constructor) (by repeat constructor) (by repeat constructor) (by repeat constructor) ?_;show V _ _ _ _ _;refine wT 181 12 2 4 rfl rfl (by repeat constructor) (by repeat constructor) (by repeat constructor) (by repeat constructor) ?_;show V _ _ _ _ _;refine wT 205 16 2 5 rfl rfl (by repeat constructor) (by repeat constructor) (by repeat constructor) (by repeat constructor) ?_;show V _ _ _ _ _;refine wN 0 1 (fun bw=>?_);refine gWb (fun(y:Nat) (ac:List qV) (ad:List mJ) (ae:List kG) (ag:List mH) (ah:Nat) (ai:Nat) (aj:Nat) (ak:Nat)=>⟨[(1,.ptr 0 0),(2,.ptr 1 0),(6,.ptr 2 0),(7,.N y)],[bSx al ab,.box [.S [],.nilsl,.nilsl,.nilsl,.nilsl,.nilsl],.box [.S f,.L 1 (jP c),.sl 3 ah,.sl 4 ai,.sl 5 aj,.sl 6 ak],.arr 173 5 ah (gBm ac),.arr 195 3 ai (uM ad),.arr 181 12 aj (uN ae),.arr 205 16 ak (uO ag)],Tryz.f95.ntmps⟩) (fun y ac ad ae ag ah ai aj ak=>wP (c,a9) (gD.mk f ba) (ab.drop y) ac ad ae ag=some r) (fun y ac ad ae ag ah ai aj ak=>ab.length - y) 3 [] [] [] [] 0 0 0 0 eJ h ?_;rintro y ac ad ae ag ah ai aj ak h;refine goL ?_;refine kX (fun av=>?_) (fun av=>?_)
  ·have aa:=uR av;obtain⟨bn,bc,aw⟩:=drop_at aa;rw [aw,wP.eq_2] at h;obtain⟨ax,ay⟩:=bn;refine noS ?_;refine jW (jE ?_);refine goL ?_;refine jL (jM y (uG bc)) ?_;obtain⟨⟨a3,an,ao,ap,aq⟩,bd,h⟩:=gP h;refine yY [2,3,4,5,6] (hJn f c (gD.mk ax ay) ac ad ae ag ah ai aj ak bd) ?_;rintro _ _ ⟨a4,a5,a6,a7,rfl,rfl⟩;show VO _ _ _ _ ⟨(_,.B a3)::_,[bSx al ab,.box [.S [],.nilsl,.nilsl,.nilsl,.nilsl,.nilsl],.box [.S f,.L 1 (jP c),.sl 3 a4,.sl 4 a5,.sl 5 a6,.sl 6 a7],.arr 173 5 a4 (gBm an),.arr 195 3 a5 (uM ao),.arr 181 12 a6 (uN ap),.arr 205 16 a7 (uO aq)],_⟩ _;refine goC h ?_ ?_<;>intro bx h
   ·refine goL ?_;refine gAq (jU TBd.h TZ.h rfl (by repeat constructor)) ?_;exact goR h
   ·refine goS ?_;refine jL (jR y (by omega)) ?_;exact⟨(y+1),an,ao,ap,aq,a4,a5,a6,a7,h,by omega,eJ⟩
  ·have aa:=uS av;rw [jF aa,wP.eq_1] at h;refine goX ?_;obtain⟨bz,be,h⟩:=gP h;refine gBn (gW2 (gPk (kI.mk f c ac ad ae ag) be)) ?_;refine kX (fun a8=>?_) (fun a8=>?_)
   ·replace h:=kD a8 h;refine goL ?_;refine gAq (jU TBd.h TZ.h rfl (by repeat constructor)) ?_;exact goR h
   ·replace h:=kE a8 h;refine goS ?_;refine kN 3 rfl rfl ?_;refine kN 4 rfl rfl ?_;refine kN 5 rfl rfl ?_;refine kN 6 rfl rfl ?_;refine jK ?_;cases h;exact qA
def gCe(h:List UInt8):Option (kI × Bool):=
bnd (gDv h) fun c=>
(cnd (!c.2) (
(some ((kI.mk [] [] [] [] [] []),false))) (
bnd (yK c.1) fun f=>
(some (f.1,f.2))))
theorem gS4(a0:List UInt8){r:kI × Bool}(h:gCe a0=some r):jC Tryz.prog 72 [.S a0] [gE8 r.1,.b r.2]:=by
 unfold gCe at h;refine SpI Tryz.func72 fun A _=>?_;refine goL ?_;obtain⟨⟨⟨c,f⟩,ak⟩,ag,h⟩:=gP h;refine jL (gF (gU8 _ ag)) ?_;refine kX (fun c2=>?_) (fun c2=>?_)
 ·replace h:=kD c2 h;refine goL ?_;refine gAq (jU TBd.h TZ.h rfl (by repeat constructor)) ?_;exact goR h
 ·replace h:=kE c2 h;refine goS ?_;obtain⟨⟨⟨y,aa,ab,ac,ad,ae⟩,al⟩,ai,h⟩:=gP h;refine qI (gF (gPl _ ai)) ?_;exact goR h
def uC:List (List UInt8)→(List kI)→Option (gI × Int)
 | [],c=>(some ((gI.mk c),(-1)))
 | y::xs,c=>(cnd (gGy y) (
uC xs c) (
bnd (gCe y) fun f=>
lt_ ((cnd (!f.2) (true) (((c.length:Int)==5)))) fun h=>
(cnd h (
(some ((gI.mk []),(c.length:Int)))) (
gd (c.length+[f.1].length≤4294967296) (
uC xs (c++[f.1]))))))
def yS(c:List UInt8):Option (gI × Int):=
bnd (gEz c 10) fun f=>
uC f []
theorem gS5(a0:List UInt8){r:gI × Int}(h:yS a0=some r):jC Tryz.prog 35 [.S a0] [kR r.1,.i .i64 r.2]:=by
 unfold yS at h;refine SpI Tryz.func35 fun A _=>?_;refine goL ?_;refine gBn (jU TBd.h TZ.h rfl (by repeat constructor)) ?_;obtain⟨x1,al,h⟩:=gP h;refine jL (gF (gYs _ _ al)) ?_;refine noB ?_;refine wT 110 6 1 0 rfl rfl (by repeat constructor) (by repeat constructor) (by repeat constructor) (by repeat constructor) ?_;show V _ _ _ _ _;refine gBx 5 (fun z5=>?_);refine kS (fun(y4:Nat) (y2:List kI) (v3:Nat)=>⟨[(2,.ptr 0 0),(4,.ptr 1 0),(5,.L 1 (jP x1)),(6,.N y4)],[.box [.nilsl],.box [.sl 2 v3],.arr 110 6 v3 (gX y2)],Tryz.f35.ntmps⟩) (fun y4 y2 v3=>uC (x1.drop y4) y2=some r) (fun y4 y2 v3=>x1.length - y4) 0 [] 0 eJ h ?_;rintro y4 y2 v3 h;refine goL ?_;refine kX (fun c6=>?_) (fun c6=>?_)
 ·have ad:=uR c6;obtain⟨x7,ai,aj⟩:=drop_at ad;rw [aj,uC.eq_2] at h;refine noS ?_;refine jW (jE ?_);refine goL ?_;refine jL (jM y4 (gQq ai)) ?_;refine jL (gF (hE9 x7)) ?_;refine kX (fun c8=>?_) (fun c8=>?_)
  ·replace h:=kD c8 h;refine goX ?_;refine jL (jR y4 (by omega)) ?_;exact⟨(y4+1),y2,v3,h,by omega,eJ⟩
  ·replace h:=kE c8 h;refine goS ?_;refine jL (jM y4 (gQq ai)) ?_;obtain⟨⟨⟨c,f,y,aa,ab,ac⟩,au⟩,ao,h⟩:=gP h;refine jL (gF (gS4 _ ao)) ?_;obtain⟨ap,hb10,h⟩:=qB h;refine jT ⟨[(2,.ptr 0 0),(4,.ptr 1 0),(5,.L 1 (jP x1)),(6,.N y4),(7,.ptr 3 0),(38,.B ap)],[.box [.nilsl],.box [.sl 2 v3],.arr 110 6 v3 (gX y2),bPk c f y aa ab ac],Tryz.f35.ntmps⟩ ?_ ?_
   ·exact gqZ 33 hb10
   refine goC h ?_ ?_<;>intro aw h
   ·refine qH (P:=Tryz.prog) Mix.h (.q 0 (.q 1 (.h 2 (.h 3 (.h 4 (.q 5 .nil) .nil) (.h 4 (.h 3 (.q 5 .nil) .nil) .nil)) (.h 4 (.h 2 (.h 3 (.q 5 .nil) .nil) .nil) .nil)))) ⟨[(2,.ptr 0 0),(3,.I (y2.length:Int))],[.box [.nilsl],.box [.sl 2 v3],.arr 110 6 v3 (gX y2),bPk c f y aa ab ac],Tryz.f35.ntmps⟩ (by kernel_rfl) ?_ ?_
    ·refine goT ?_;refine vW (pJ jX) ?_ ?_
     ·refine vW (hI8 jX) ?_ ?_
      ·refine goT ?_;refine jY ?_;exact uK 0 [0,1,2,3]
      refine goT ?_;refine jV (hI8 jX) ?_;refine goT ?_;refine jY ?_;exact uK 0 [0,1,2,3]
     refine goT ?_;refine jV (pJ jX) ?_;refine jV (hI8 jX) ?_;refine goT ?_;refine jY ?_;exact uK 0 [0,1,2,3]
    exact goR h
   ·refine goS ?_;refine gAk (u:=(.st [.s c,.sl 1 (jP f),.sl 5 (gBm y),.sl 3 (uM aa),.sl 12 (uN ab),.sl 16 (uO ac)])) ?_;obtain⟨aq,h⟩:=mW h;refine gBd aq ?_;refine goL ?_;refine jL (jR y4 (by omega)) ?_;exact⟨(y4+1),(y2++[(kI.mk c f y aa ab ac)]),(v3+1),h,by omega,eJ⟩
 ·have ad:=uS c6;rw [jF ad,uC.eq_1] at h;refine goX ?_;refine kN 2 rfl rfl ?_;refine jK ?_;cases h;exact qA
theorem hJo{x:gD}(hx:wfx x=true)(hn:ndx x≤900)(hd:dpx x≤14)(hl:(fmt x).length≤4900)(hv:qK x=some true):gDv (fmt x)=some (x,true):=by
 have h:gBv 5000 ⟨fmt x,0,0,0,false⟩=some (x,⟨fmt x,((0+(fmt x).length:Nat):Int),0,0+ndx x,false⟩):=
  hKu (s:=fmt x) (by omega) x 0 5000 0 0 [] hx (by simp) (fun b t h=>by cases h) (by omega) (by omega) (by omega) (by omega) (by omega)
 unfold gDv;rw [jQ h];simp only;rw [jQ (hOc (.inl (by simp)))];simp only [gK];rw [show (((0+(fmt x).length:Nat):Int) !=((fmt x).length:Int))=false from by rw [Nat.zero_add];exact bne_self_eq_false _];simp only [gK,hv,bnd,Bool.not_true]
def noL(l:List UInt8):Bool:=l.all fun b=> !((b.toNat:Int)==10)
theorem gOh(s:List UInt8)(hl:s.length≤4294967296)(tail:List UInt8):∀(a:List UInt8) (p q n:Nat) (acc:List (List UInt8)),noL a=true→s.drop p=a++tail→mZ s 10 (n+a.length) acc q (p:Int)=mZ s 10 n acc q ((p+a.length:Nat):Int)
 | [],p,q,n,acc,_,_=>rfl
 | b::a,p,q,n,acc,hb,h=>by
   simp only [noL,List.all_cons,Bool.and_eq_true,Bool.not_eq_true'] at hb;obtain⟨c,f,y⟩:=gEn (by simpa using h);rw [show n+(b::a).length=(n+a.length)+1 by simp;omega,mZ];rw [show decide ((p:Int)≤(s.length:Int))=true from decide_eq_true (by omega),show((p:Int)==(s.length:Int))=false from beq_eq_false_iff_ne.2 (by omega)];simp only [gZ,gK,c,bnd,hb.1];rw [gWx (by omega),gOh s hl tail a (p+1) q n acc hb.2 f];simp only [List.length_cons];rw [show p+1+a.length=p+(a.length+1) by omega]
theorem gYp(s:List UInt8)(hl:s.length≤4294967295)(q n:Nat)(acc:List (List UInt8))(hq:q≤s.length)(ha:acc.length≤4294967295):mZ s 10 (n+2) acc q (s.length:Int)=some (acc++[s.drop q]):=by
 rw [mZ];rw [show decide ((s.length:Int)≤(s.length:Int))=true from decide_eq_true (by omega),beq_self_eq_true];simp only [gZ,bnd];rw [mK ⟨by omega,by omega,by omega⟩,mK (by simp;omega),gWx (by omega),mZ,show decide (((s.length+1:Nat):Int)≤(s.length:Int))=false from decide_eq_false (by omega)];simp only [gK,Int.toNat_natCast];rw [List.take_of_length_le (by simp)]
theorem hNt(s:List UInt8)(hl:s.length≤4294967295)(p q n:Nat)(acc:List (List UInt8)){t:List UInt8}(h:s.drop p=10::t)(hq:q≤p)(ha:acc.length≤4294967295):mZ s 10 (n+1) acc q (p:Int)=mZ s 10 n (acc++[(s.drop q).take (p - q)]) ((p+1:Nat):Int) ((p+1:Nat):Int):=by
 obtain⟨c,f,y⟩:=gEn h;rw [mZ];rw [show decide ((p:Int)≤(s.length:Int))=true from decide_eq_true (by omega),show((p:Int)==(s.length:Int))=false from beq_eq_false_iff_ne.2 (by omega)];simp only [gZ,gK,c,bnd];rw [show ((((10:UInt8).toNat:Nat):Int)==10)=true from by decide];simp only [gZ];rw [mK ⟨by omega,by omega,by omega⟩,mK (by simp;omega),gWx (by omega)];simp only [Int.toNat_natCast]
theorem hVc(l:List UInt8)(h:noL l=true)(hl:l.length≤4900):gEz l 10=some [l]:=by
 have c:=gOh l (by omega) [] l 0 0 (5000 - l.length) [] h (by simp);have f:=gYp l (by omega) 0 (5000 - l.length - 2) [] (by omega) (by simp);unfold gEz gFv;rw [show 5000 - l.length+l.length=5000 by omega,Nat.zero_add] at c;rw [show 5000 - l.length - 2+2=5000 - l.length by omega] at f;exact(c.trans f).trans (by simp)
theorem hVd(l m:List UInt8)(h:noL l=true)(h':noL m=true)(hl:l.length+m.length≤4900):gEz (l++[10]++m) 10=some [l,m]:=by
 have hs:(l++[10]++m).length=l.length+1+m.length:=by simp;omega
 have f:=gOh (l++[10]++m) (by omega) (10::m) l 0 0 (5000 - l.length) [] h (by simp);have c:=hNt (l++[10]++m) (by omega) l.length 0 (4999 - l.length) [] (t:=m) (by simp) (by omega) (by simp);have y:=gOh (l++[10]++m) (by omega) [] m (l.length+1) (l.length+1) (4999 - l.length - m.length) [l] h' (by simp [List.drop_append]);have h4:=gYp (l++[10]++m) (by omega) (l.length+1) (4997 - l.length - m.length) [l] (by omega) (by simp);unfold gEz gFv;rw [show 5000 - l.length+l.length=5000 by omega,Nat.zero_add] at f;rw [show 4999 - l.length+1=5000 - l.length by omega] at c;rw [show 4999 - l.length - m.length+m.length=4999 - l.length by omega] at y;rw [show 4997 - l.length - m.length+2=4999 - l.length - m.length by omega,hs] at h4;have h5:(List.drop 0 (l++[10]++m)).take (l.length - 0)=l:=by simp
 rw [h5,List.nil_append] at c;refine((f.trans c).trans (y.trans h4)).trans ?_;simp [List.drop_append]
def hXz(x:gD)(m:Nat)(good:kI→Bool):Bool:=
 wfx x && decide (ndx x≤900) && decide (dpx x≤14) && decide ((fmt x).length≤m) && noL (fmt x) && !(gGy (fmt x)) && (qK x==some true) && (match yK x with | some (p,true)=>good p | _=>false)
theorem hJp{x:gD}{m:Nat}{good:kI→Bool}(hm:m≤4900)(h:hXz x m good=true):∃p,gCe (fmt x)=some (p,true)∧yK x=some (p,true)∧good p=true∧gGy (fmt x)=false∧noL (fmt x)=true∧(fmt x).length≤m:=by
 unfold hXz at h;simp only [Bool.and_eq_true,decide_eq_true_eq,Bool.not_eq_true',beq_iff_eq] at h;obtain⟨⟨⟨⟨⟨⟨⟨f,y⟩,h3⟩,h4⟩,h5⟩,h6⟩,h7⟩,c⟩:=h;split at c
 ·rename_i p hp;refine⟨p,?_,hp,c,h6,h5,h4⟩;unfold gCe;rw [jQ (hJo f y h3 (by omega) h7)];simp only [Bool.not_true,gK,hp,bnd]
 ·cases c
def hRz(p:kI):Bool:=p.instances.all fun i=> !(i.trait==addN)
def okC(b:Bool):Bool:=hXz (gWz b) 3000 fun _=>true
def okA:Bool:=hK0.all fun h=>hK5.all fun m=>[[],hSs].all fun c=>[[],hSu].all fun f=>[[],hSv].all fun y=>hXz (hSx h m c f y) 1500 fun p=>hRz p && decide (p.instances.length≤100)
theorem jBz:okC true=true:=by kernel_rfl
theorem jB0:okC false=true:=by kernel_rfl
end Go.Proofs.YtegahmhnmjnhhaaGreat
