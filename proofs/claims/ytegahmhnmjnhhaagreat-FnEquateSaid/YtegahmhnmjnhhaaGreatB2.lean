import Derived.Test.YtegahmhnmjnhhaaGreatB6
set_option maxHeartbeats 4000000
set_option linter.unusedVariables false
set_option linter.unusedSimpArgs false
set_option linter.unusedSectionVars false
namespace Go.Proofs.YtegahmhnmjnhhaaGreat
open Go Go.Eng
attribute [local irreducible] V VO VQ VY Quiet QR gY kR Rng mU mW mG
def vO(c:gB)(a1:gB):Option (Bool):=
bnd (uX c a1) fun f=>
bnd ((cnd f (bnd (uX a1 c) fun h=>
(some (!h))) ((some false)))) fun y=>
(some y)
theorem gR0(a0:gB)(a1:gB){r:Bool}(h:vO a0 a1=some r):gY Tryz.prog 238 [.d (jS a0),.d (jS a1)] [.b r]:=by
 obtain⟨c,f,y⟩:=a0;obtain⟨aa,ab,ac⟩:=a1;unfold vO at h;refine SpI Tryz.func238 fun A _=>?_;refine goL ?_;obtain⟨x1,ae,h⟩:=gM h;refine jI (gF (gGm _ _ ae)) ?_;obtain⟨b2,hb2,h⟩:=gM h;refine jT ⟨[(4,.B b2)],[bTy c f y,bTy aa ab ac],Tryz.f238.ntmps⟩ ?_ ?_
 ·refine gqA 8 hb2 (fun c3 hb2=>?_);obtain⟨x4,ag,hb2⟩:=gM hb2;refine jI (gF (gGm _ _ ag)) ?_;cases hb2;exact eJ
 exact goR h
def gBj(c:gK→LB→LS→Option LS)(w:gK):LS→LS→Option LS
 | [],f=>(some f)
 | h::xs,f=>(cnd (!(wM f h)) (
gd (f.length+[h].length≤4294967296) (
bnd (c w h (f++[h])) fun y=>
gBj c w xs y)) (
gBj c w xs f))
def gNa(c:gK→LB→LS→Option LS)(w:gK)(name:LB)(l0:LS):Option LS:=
lt_ (wV w name) fun f=>
gBj c w f.1.supertraits l0
theorem gZv{c:gK→LB→LS→Option LS}(f:∀(x0:gK)(x1:LB)(x2:LS)(w0:Nat){r:LS},c x0 x1 x2=some r→Go.Eng.Spec Tryz.prog 225 [.d (kT x0),.S x1,.sl 0 w0] [.own 9 1 w0 (jL x2)] (fun sv Lo=>∃v'0,sv=.sl 0 v'0∧Lo=[.own 9 1 v'0 (jL r)]))(w:gK)(name:LB)(l0:LS)(v0:Nat){r:LS}(h:gNa c w name l0=some r):Go.Eng.Spec Tryz.prog 225 [.d (kT w),.S name,.sl 0 v0] [.own 9 1 v0 (jL l0)] (fun sv Lo=>∃v'0,sv=.sl 0 v'0∧Lo=[.own 9 1 v'0 (jL r)]):=by
 obtain⟨ah⟩:=w;unfold gNa at h;refine kF 1 Tryz.func225 rfl (by kernel_rfl) rfl rfl fun A _=>?_;refine goL ?_;obtain⟨⟨⟨ab,y,ac,ad,ae⟩,a3,a4⟩,ar,h⟩:=qA h;have sx1:=gLh (gK.mk ah) name;rw [ar] at sx1;refine jI (gF (sx1)) ?_;refine noB ?_;refine wJ 2 1 (fun z5=>?_);refine kS (fun(y4:Nat)(y2:LS)(v3:Nat)=>⟨[(2,.sl 0 v3),(3,.ptr 1 0),(7,.ptr 2 0),(10,.N y4)],[.own 9 1 v3 (jL y2),bPr ah,bTr ab y ac ad ae],Tryz.f225.ntmps⟩) (fun y4 y2 v3=>gBj c (gK.mk ah) (y.drop y4) y2=some r) (fun y4 y2 v3=>y.length - y4) 0 l0 v0 eJ h ?_;rintro y4 y2 v3 h;refine goL ?_;refine kX (fun c6=>?_) (fun c6=>?_)
 ·have aa:=uR c6;obtain⟨x7,ak,am⟩:=drop_at aa;rw [am,gBj.eq_2] at h;refine noS ?_;refine jY (jA ?_);refine goL ?_;refine jI (jJ y4 (gQr ak)) ?_;refine gBn (gV9 (gGg y2 x7)) ?_;refine kX (fun c8=>?_) (fun c8=>?_)
  ·replace h:=kD c8 h;refine uM (P:=Tryz.prog) Mix.h [(0,true),(1,true),(2,true),(3,true),(4,true),(5,true),(6,true),(7,true),(8,true),(9,true),(10,true),(11,true),(12,false),(13,false),(14,false),(15,true)] (by kernel_rfl) ?_;refine goY ?_;refine jF rfl (jJ y4 (gQr ak)) ?_;refine goY ?_;refine jF rfl (jJ y4 (gQr ak)) ?_;refine goY ?_;refine gYh (T:=57) (x7:LB) ?_;obtain⟨g9,h⟩:=mY h;refine gWf (T:=57) g9 ?_;obtain⟨an,ao,h⟩:=gM h;refine gS1 [0] (f (gK.mk ah) x7 (y2++[x7]) (v3+1) ao) ?_;rintro _ _ ⟨al,rfl,rfl⟩;refine gQe (sv:=.sl 0 al) (L':=[.own 9 1 al (jL an),bPr ah,bTr ab y ac ad ae,.dead 1]) (by repeat(first | exact uY.nil | (apply uY.keep;focus ((repeat constructor);done)) | (apply uY.dep;focus kernel_rfl))) ?_;refine goY ?_;refine kQ ?_;refine goL ?_;refine jI (jW y4 (by omega)) ?_;exact⟨(y4+1),an,al,h,by omega,eJ⟩
  ·replace h:=kE c8 h;refine goS ?_;refine jI (jW y4 (by omega)) ?_;exact⟨(y4+1),y2,v3,h,by omega,eJ⟩
 ·have aa:=uS c6;rw [jC aa,gBj.eq_1] at h;refine goX ?_;refine jG ?_;obtain rfl:=Option.some.inj h;exact yK [.sl 0 v3] _ ⟨v3,rfl,rfl⟩
def gNb:Nat→gK→LB→LS→Option LS
 | 0,_,_,_=>none
 | n+1,c,f,h=>gNa (gNb n) c f h
theorem gZw:∀(n:Nat)(c:gK)(f:LB)(y:LS)(w0:Nat){r:LS},gNb n c f y=some r→Go.Eng.Spec Tryz.prog 225 [.d (kT c),.S f,.sl 0 w0] [.own 9 1 w0 (jL y)] (fun sv Lo=>∃v'0,sv=.sl 0 v'0∧Lo=[.own 9 1 v'0 (jL r)]):=by
 intro n
 induction n with
 | zero=>intro c f y w0 r h;cases h
 | succ n ih=>intro c f y w0 r h;exact gZv ih c f y w0 h
def gDi(c:gK)(a1:gH):Option (kG × Bool):=
bnd ((cnd (!(gFl a1.package 0 (IntKind.i64.wrap ((c.packages.length:Int) - 1)))) ((some true)) (bnd (at? c.packages a1.package) fun f=>
(some (!(gFl a1.at_ 0 (IntKind.i64.wrap ((f.instances.length:Int) - 1)))))))) fun h=>
(cnd h (
(some ((kG.mk [] [] (gB.mk 0 [] []) [] false false (gB.mk 0 [] []) []),false))) (
bnd (at? c.packages a1.package) fun y=>
bnd (at? y.instances a1.at_) fun x6=>
(some (x6,true))))
theorem gZx(a0:gK)(a1:gH){r:kG × Bool}(h:gDi a0 a1=some r):gY Tryz.prog 160 [.d (kT a0),.d (qI a1)] [gCc r.1,.b r.2]:=by
 obtain⟨c⟩:=a0;obtain⟨f,y⟩:=a1;unfold gDi at h;refine SpI Tryz.func160 fun A _=>?_;refine gId ?_;obtain⟨b1,hb1,h⟩:=gM h;refine uE (P:=Tryz.prog) Mix.h ⟨[(2,.ptr 0 0),(3,.ptr 1 0),(4,.ptr 2 0),(28,.B b1)],[bPr c,.box [.I f,.I y],.box [.S [],.nilsl,.I 0,.S [],.nilsl,.nilsl,.B false,.B false,.I 0,.S [],.nilsl,.nilsl]],Tryz.f160.ntmps⟩ (by kernel_rfl) ?_ ?_
 ·refine goL ?_;refine gFd (pU) ?_;refine gFd (gF (gNz f 0 (IntKind.i64.wrap ((c.length:Int) - 1)))) ?_;refine goL ?_;refine vG 14 (fun c2=>?_) (fun c2=>?_)
  ·replace hb1:=kD c2 hb1;refine goL ?_;cases hb1;exact eJ
  ·replace hb1:=kE c2 hb1;refine goL ?_;obtain⟨x3,aa,hb1⟩:=gM hb1;obtain⟨ad,aa⟩:=gDy aa;obtain⟨aq,ar,au,av,ae,aw⟩:=x3;refine gC1 (qW ad (gBt aa)) ?_;refine goL ?_;refine gC1 (pU) ?_;refine gC1 (gF (gNz y 0 (IntKind.i64.wrap ((ae.length:Int) - 1)))) ?_;refine goL ?_;cases hb1;exact eJ
 refine goC h ?_ ?_<;>intro c4 h
 ·refine goL ?_;refine zZ (jX TBd.h TZ.h rfl (by repeat constructor)) ?_;exact goR h
 ·refine noS ?_;refine jK (P:=Tryz.prog) Mix.h [(0,true),(1,true),(2,true),(3,true),(4,true),(5,true),(6,true),(7,true),(8,true),(9,true),(10,true),(11,false),(12,true)] (by kernel_rfl) ?_;refine goY ?_;obtain⟨x5,ab,h⟩:=gM h;obtain⟨ag,ab⟩:=gDy ab;obtain⟨ax,ay,a3,a4,a5,a6⟩:=x5;refine jF rfl (qW ag (gBt ab)) ?_;refine goY ?_;obtain⟨x6,ac,h⟩:=gM h;obtain⟨ah,ac⟩:=gDy ac;obtain⟨a7,a8,⟨ai,aj,ak⟩,a9,ba,bb,⟨al,am,an⟩,bc⟩:=x6;refine jF rfl (qW ah (gHu ac)) ?_;refine goY ?_;refine kQ ?_;exact goR h
def gPd  :Option (gB):=
bnd (gI7 [105,110,116] []) fun c=>
(some c)
theorem hHe  {r:gB}(h:gPd  =some r):gY Tryz.prog 32 [] [jS r]:=by
 unfold gPd at h;refine SpI Tryz.func32 fun A _=>?_;refine goL ?_;obtain⟨⟨f,y,aa⟩,c,h⟩:=gM h;refine qK (gF (gPb _ _ c)) ?_;exact goR h
def yB(f:gK)(a1:LB)(a2:LB):Option (List Int × Bool):=
bnd (gPk 5000 f a1 a2 8) fun c=>
(some (c.1,c.2))
theorem gJf(c:gK)(a1:LB)(a2:LB){r:List Int × Bool}(h:yB c a1 a2=some r):gY Tryz.prog 194 [.d (kT c),.S a1,.S a2] [.sl 1 (gJo r.1),.b r.2]:=by
 obtain⟨y⟩:=c;unfold yB at h;refine SpI Tryz.func194 fun A _=>?_;refine goL ?_;obtain⟨⟨aa,ab⟩,f,h⟩:=gM h;refine qK (gF (hFe _ _ _ _ _ f)) ?_;exact goR h
def uW(a0:gK)(x7:kG)(c:Bool→Option (gH × Int)):List gH→Bool→Option (gH × Int)
 | [],h=>(c h)
 | f::xs,h=>bnd (at? a0.packages f.package) fun y=>
bnd (at? y.instances f.at_) fun aa=>
bnd ((cnd h (bnd (vO aa.head x7.head) fun ab=>
(some (!ab))) ((some false)))) fun ac=>
uW a0 x7 c xs ac
def qH(c:gK)(y:List gH):List gH→Option (gH × Int)
 | []=>(some ((gH.mk 0 0),1))
 | f::xs=>bnd (at? c.packages f.package) fun x6=>
bnd (at? x6.instances f.at_) fun x7=>
uW c x7 (fun y9=>bnd ((cnd y9 ((cnd x7.default_ (none) ((some false)))) ((some false)))) fun h=>
(cnd h (
(some ((gH.mk 0 0),2))) (
(cnd y9 (
(some (f,0))) (
qH c y xs ))))) y true
def gAd(c:gK)(a1:gW):Option (gH × Int):=
bnd (vP c a1) fun f=>
qH c f f
theorem gPe(a0:gK)(a1:gW){r:gH × Int}(h:gAd a0 a1=some r):gY Tryz.prog 224 [.d (kT a0),.d (zW a1)] [qI r.1,.i .i64 r.2]:=by
 obtain⟨ah⟩:=a0;obtain⟨ar,⟨ad,ae,ag⟩⟩:=a1;unfold gAd at h;refine SpI Tryz.func224 fun A _=>?_;refine goL ?_;obtain⟨x1,bz,h⟩:=gM h;refine jI (gF (gLi _ _ bz)) ?_;refine noB ?_;refine gB0 6 (fun z3=>?_);refine mV (fun(y2:Nat)=>⟨[(2,.ptr 0 0),(3,.ptr 1 0),(4,.ptr 2 0),(6,.L 2 (kK x1)),(7,.N y2)],[bPr ah,bBd ar ad ae ag,.box [.I 0,.I 0]],Tryz.f224.ntmps⟩) (fun y2=>qH (gK.mk ah) x1 (x1.drop y2)  =some r) (fun y2=>x1.length - y2) 0 eJ h ?_;rintro y2 h;refine goL ?_;refine kX (fun c4=>?_) (fun c4=>?_)
 ·have ap:=uR c4;obtain⟨x5,ba,bp⟩:=drop_at ap;rw [bp,qH.eq_2] at h;obtain⟨bq,br⟩:=x5;refine noS ?_;refine jY (jA ?_);refine jK (P:=Tryz.prog) Mix.h [(0,true),(1,true),(2,true),(3,true),(4,true),(5,true),(6,true),(7,true),(8,true),(9,true),(10,true),(11,true),(12,true),(13,true),(14,true),(15,true),(16,true),(17,false),(18,false)] (by kernel_rfl) ?_;refine goY ?_;refine jF rfl (jJ y2 (wX ba)) ?_;refine goY ?_;obtain⟨x6,bb,h⟩:=gM h;obtain⟨bt,bb⟩:=gDy bb;obtain⟨cc,cd,ce,cf,cg,ch⟩:=x6;refine jF rfl (qW bt (gBt bb)) ?_;refine goY ?_;refine jF rfl (jJ y2 (wX ba)) ?_;refine goY ?_;obtain⟨x7,bc,h⟩:=gM h;obtain⟨bu,bc⟩:=gDy bc;obtain⟨ai,aj,⟨c,f,y⟩,ak,al,am,⟨aa,ab,ac⟩,an⟩:=x7;refine jF rfl (qW bu (gHu bc)) ?_;refine goY ?_;refine kQ ?_;refine goL ?_;refine noB ?_;refine gB0 6 (fun cl=>?_)
  refine gEe (fun(y8:Nat)(y9:Bool)=>⟨[(2,.ptr 0 0),(3,.ptr 1 0),(4,.ptr 2 0),(6,.L 2 (kK x1)),(7,.N y2),(8,.ptr 3 0),(9,.B y9),(10,.N y8)],[bPr ah,bBd ar ad ae ag,.box [.I 0,.I 0],bIn ai aj c f y ak al am aa ab ac an],Tryz.f224.ntmps⟩) (fun y8 y9=>uW (gK.mk ah) (kG.mk ai aj (gB.mk c f y) ak al am (gB.mk aa ab ac) an) (fun y9=>bnd ((cnd y9 ((cnd (kG.mk ai aj (gB.mk c f y) ak al am (gB.mk aa ab ac) an).default_ (none) ((some false)))) ((some false)))) fun bd=>
(cnd bd (
(some ((gH.mk 0 0),2))) (
(cnd y9 (
(some ((gH.mk bq br),0))) (
qH (gK.mk ah) x1 (x1.drop (y2+1)) ))))) (x1.drop y8) y9=some r) (fun y8 y9=>x1.length - y8) 0 true eJ h ?_
  rintro y8 y9 h;refine goL ?_;refine kX (fun be=>?_) (fun be=>?_)
  ·have aq:=uR be;obtain⟨b1,a9,bf⟩:=drop_at aq;rw [bf,uW.eq_2] at h;obtain⟨b2,b3⟩:=b1;refine noS ?_;refine jY (jA ?_);refine jK (P:=Tryz.prog) Mix.h [(0,true),(1,true),(2,true),(3,true),(4,true),(5,true),(6,true),(7,true),(8,true),(9,true),(10,true),(11,true),(12,true),(13,true),(14,true),(15,true),(16,true),(17,false),(18,false)] (by kernel_rfl) ?_;refine goY ?_;refine jF rfl (jJ y8 (wX a9)) ?_;refine goY ?_;obtain⟨b4,aw,h⟩:=gM h;obtain⟨bg,aw⟩:=gDy aw;obtain⟨b5,b6,b7,b8,b9,ca⟩:=b4;refine jF rfl (qW bg (gBt aw)) ?_;refine goY ?_;refine jF rfl (jJ y8 (wX a9)) ?_;refine goY ?_;obtain⟨cb,ax,h⟩:=gM h;obtain⟨bh,ax⟩:=gDy ax;obtain⟨bi,bj,⟨ay,a3,a4⟩,bk,bl,bm,⟨a5,a6,a7⟩,bn⟩:=cb;refine jF rfl (qW bh (gHu ax)) ?_;refine goY ?_;refine kQ ?_;refine goL ?_;obtain⟨bv,hb15,h⟩:=gM h;refine jT ⟨[(2,.ptr 0 0),(3,.ptr 1 0),(4,.ptr 2 0),(6,.L 2 (kK x1)),(7,.N y2),(8,.ptr 3 0),(10,.N y8),(9,.B bv)],[bPr ah,bBd ar ad ae ag,.box [.I 0,.I 0],bIn ai aj c f y ak al am aa ab ac an,bIn bi bj ay a3 a4 bk bl bm a5 a6 a7 bn],Tryz.f224.ntmps⟩ ?_ ?_
   ·refine gqA 62 hb15 (fun cm hb15=>?_);obtain⟨cn,bw,hb15⟩:=gM hb15;refine jI (gF (gR0 _ _ bw)) ?_;cases hb15;exact eJ
   refine goL ?_;refine jI (jW y8 (by omega)) ?_;exact⟨(y8+1),bv,h,by omega,eJ⟩
  ·have aq:=uS be;rw [jC aq,uW.eq_1] at h;refine goX ?_;obtain⟨bd,hb18,h⟩:=gM h;refine jT ⟨[(2,.ptr 0 0),(3,.ptr 1 0),(4,.ptr 2 0),(6,.L 2 (kK x1)),(7,.N y2),(9,.B y9),(80,.B bd)],[bPr ah,bBd ar ad ae ag,.box [.I 0,.I 0],bIn ai aj c f y ak al am aa ab ac an],Tryz.f224.ntmps⟩ ?_ ?_
   ·refine gqA 71 hb18 (fun co hb18=>?_);refine gqA 75 hb18 (fun cp hb18=>?_);cases hb18
   refine goC h ?_ ?_<;>intro cq h
   ·refine goL ?_;refine zZ (jX TBd.h TZ.h rfl (by repeat constructor)) ?_;exact goR h
   ·refine goS ?_;refine kX (fun bo=>?_) (fun bo=>?_)
    ·replace h:=kD bo h;refine goL ?_;refine qK (jJ y2 (wX ba)) ?_;exact goR h
    ·replace h:=kE bo h;refine goS ?_;refine jI (jW y2 (by omega)) ?_;exact⟨(y2+1),h,by omega,eJ⟩
 ·have ap:=uS c4;rw [jC ap,qH.eq_1] at h;refine goX ?_;refine zZ (jX TBd.h TZ.h rfl (by repeat constructor)) ?_;exact goR h
def qY(c:gK)(a1:LB):Option LS:=
bnd (gNb 5000 c a1 []) fun f=>
(some f)
theorem gPf(f:gK)(a1:LB){r:LS}(h:qY f a1=some r):gY Tryz.prog 196 [.d (kT f),.S a1] [.sl 1 (jL r)]:=by
 obtain⟨c⟩:=f;unfold qY at h;refine SpI Tryz.func196 fun A _=>?_;refine goL ?_;refine gGk ?_;obtain⟨x1,y,h⟩:=gM h;refine yJ [1] (gZw 5000 (gK.mk c) a1 [] 0 y) ?_;rintro _ _ ⟨v2,rfl,rfl⟩;show VO _ _ _ _ ⟨(_,.sl 1 v2)::_,[bPr c,.own 9 1 v2 (jL x1)],_⟩ _;refine goL ?_;refine qU 1 rfl rfl ?_;refine jG ?_;cases h;exact qD
def wS(h:gK)(a1:gH)(a2:gB):Option (gB × Bool):=
bnd (gDi h a1) fun c=>
bnd (gFj c.1.head a2) fun f=>
lt_ ((cnd (!c.2) (true) ((cnd (!c.1.hasAssoc) (true) ((!f.2)))))) fun y=>
(cnd y (
(some ((gB.mk 0 [] []),false))) (
gd (bok f.1∧tok c.1.assoc) (lt_ (apT f.1 c.1.assoc) fun x8=>
(some (x8,true)))))
theorem gTx(a0:gK)(a1:gH)(a2:gB){r:gB × Bool}(h:wS a0 a1 a2=some r):gY Tryz.prog 126 [.d (kT a0),.d (qI a1),.d (jS a2)] [jS r.1,.b r.2]:=by
 obtain⟨al⟩:=a0;obtain⟨am,an⟩:=a1;obtain⟨ao,ap,aq⟩:=a2;unfold wS at h;refine SpI Tryz.func126 fun A _=>?_;refine goL ?_;obtain⟨⟨⟨ad,ae,⟨aa,ab,ac⟩,ag,ah,ai,⟨c,f,y⟩,aj⟩,ax⟩,au,h⟩:=gM h;refine jI (gF (gZx _ _ au)) ?_;obtain⟨⟨ak,ay⟩,av,h⟩:=gM h;refine jI (gF (gRu _ _ av)) ?_;obtain⟨b3,hb3,h⟩:=qA h;refine jT ⟨[(6,.ptr 3 0),(8,.ptr 4 0),(10,.L 4 (gP ak)),(35,.B b3)],[bPr al,.box [.I am,.I an],bTy ao ap aq,.box [.I 0,.S [],.nilsl],bIn ad ae aa ab ac ag ah ai c f y aj],Tryz.f126.ntmps⟩ ?_ ?_
 ·refine gqO 27 hb3 (fun c4 hb3=>?_);exact gqZ 32 hb3
 refine goC h ?_ ?_<;>intro c6 h
 ·refine goL ?_;refine zZ (jX TBd.h TZ.h rfl (by repeat constructor)) ?_;exact goR h
 ·refine goS ?_;obtain⟨g7,h⟩:=mY h;obtain⟨⟨a3,a4,a5⟩,aw,h⟩:=qA h;have sx8:=(gW7 ak (gB.mk c f y) g7).p;rw [aw] at sx8;refine qK (gF (sx8)) ?_;exact goR h
def gR1(f:jB→Int→Option (gB × jB))(c:jB)(a1:Int):Option (gB × jB):=
bnd (gAg c 6) fun h=>
bnd ((cnd (h.1==0) (
(some (h.1==0))) (
(some (h.1==1))))) fun b2=>
(cnd b2 (
bnd (gAg h.2 4) fun x5=>
gd (gGi x5.1) (gd (([63]:LB).length+(Lib.itoa x5.1).length≤4294967296) (
lt_ (gDe (([63]:LB)++(Lib.itoa x5.1))) fun x8=>
(some (x8,x5.2))))) (
(cnd (h.1==2) (
bnd (gGv h.2 [[105,110,116],[98,111,111,108]]) fun aa=>
bnd (gI7 aa.1 []) fun ah=>
(some (ah,aa.2))) (
(cnd (h.1==3) (
lt_ (gDe [63,49]) fun ai=>
bnd (gPd ) fun aj=>
lt_ (gDe [97]) fun ak=>
bnd (gPd ) fun al=>
bnd (gI7 [98,111,120] [al]) fun am=>
bnd (gJh h.2 [ai,aj,ak,am]) fun ab=>
bnd (gQ2 [97,100,100] ab.1) fun an=>
(some (an,ab.2))) (
(cnd (decide (a1≤0)) (
lt_ (gDe [97]) fun ao=>
(some (ao,h.2))) (
bnd (gEb h.2 2) fun y=>
(cnd y.1 (
bnd (f y.2 (IntKind.i64.wrap (a1 - 1))) fun ac=>
bnd (gI7 [98,111,120] [ac.1]) fun ap=>
(some (ap,ac.2))) (
bnd (f y.2 (IntKind.i64.wrap (a1 - 1))) fun ad=>
bnd (f ad.2 (IntKind.i64.wrap (a1 - 1))) fun ae=>
bnd (gI7 [112,97,105,114] [ad.1,ae.1]) fun aq=>
(some (aq,ae.2))))))))))))
theorem hSf{ac:jB→Int→Option (gB × jB)}(f:∀(x0:jB)(x1:Int){r:gB × jB},ac x0 x1=some r→Go.Eng.Spec Tryz.prog 21 [.ptr 0 0,.I x1] [bCu x0.b x0.i x0.h] (fun sv Lo=>sv=.d (jS r.1)∧Lo=[bCu r.2.b r.2.i r.2.h]))(c:jB)(a1:Int){r:gB × jB}(h:gR1 ac c a1=some r):Go.Eng.Spec Tryz.prog 21 [.ptr 0 0,.I a1] [bCu c.b c.i c.h] (fun sv Lo=>sv=.d (jS r.1)∧Lo=[bCu r.2.b r.2.i r.2.h]):=by
 obtain⟨c0,c1,c2⟩:=c;unfold gR1 at h;refine kF 1 Tryz.func21 rfl (by kernel_rfl) rfl rfl fun A _=>?_;refine goL ?_;obtain⟨⟨bv,⟨y,aa,ab⟩⟩,c5,h⟩:=gM h;refine gA7 0 (gD7 (jB.mk c0 c1 c2) 6 c5) ?_;refine goL ?_;refine jA ?_;refine goL ?_;obtain⟨b2,hb2,h⟩:=gM h;refine gE4 ⟨[(0,.ptr 0 0),(1,.I a1),(4,.ptr 1 0),(6,.I bv),(7,.B b2)],[bCu y aa ab,.box [.I 0,.S [],.nilsl]],Tryz.f21.ntmps⟩ ?_ ?_
 ·refine kX (fun c3=>?_) (fun c3=>?_)
  ·replace hb2:=kD c3 hb2;refine gAn ?_;cases hb2;exact eJ
  ·replace hb2:=kE c3 hb2;refine goL ?_;cases hb2;exact eJ
 refine goC h ?_ ?_<;>intro c4 h
 ·refine goL ?_;obtain⟨⟨bd,⟨cx,cy,cz⟩⟩,c7,h⟩:=gM h;refine gA7 0 (gD7 (jB.mk y aa ab) 4 c7) ?_;obtain⟨g6,h⟩:=mY h;refine qK (gF (gK6 bd g6)) ?_;obtain⟨g7,h⟩:=mY h;refine qK (wK g7) ?_;obtain⟨⟨bw,bx,bz⟩,c8,h⟩:=qA h;have sx8:=gPa (([63]:LB)++(Lib.itoa bd));rw [c8] at sx8;refine jI (gF (sx8)) ?_;refine jG ?_;obtain rfl:=Option.some.inj h;exact yK [.d (.st [.i .i64 bw,.s bx,.sl 3 (jH bz)])] _ ⟨rfl,rfl⟩
 ·refine goC h ?_ ?_<;>intro c9 h
  ·refine goL ?_;refine gPz (us:=jL [[105,110,116],[98,111,111,108]]) ?_;refine uZ 2 rfl rfl ?_;obtain⟨⟨da,⟨b0,b1,b3⟩⟩,b4,h⟩:=gM h;refine gA7 0 (gQ0 (jB.mk y aa ab) [[105,110,116],[98,111,111,108]] b4) ?_;obtain⟨⟨be,bf,bg⟩,b5,h⟩:=gM h;refine jI (gF (gPb _ _ b5)) ?_;refine jG ?_;obtain rfl:=Option.some.inj h;exact yK [.d (.st [.i .i64 be,.s bf,.sl 3 (jH bg)])] _ ⟨rfl,rfl⟩
  ·refine goC h ?_ ?_<;>intro dg h
   ·refine goL ?_;obtain⟨⟨aq,ar,au⟩,b6,h⟩:=qA h;have sx13:=gPa [63,49];rw [b6] at sx13;refine qK (gF (sx13)) ?_;obtain⟨⟨av,aw,ax⟩,b7,h⟩:=gM h;refine qK (gF (hHe  b7)) ?_;obtain⟨⟨ay,a0,a3⟩,b8,h⟩:=qA h;have sx15:=gPa [97];rw [b8] at sx15;refine qK (gF (sx15)) ?_;obtain⟨⟨a4,a5,a6⟩,b9,h⟩:=gM h;refine qK (gF (hHe  b9)) ?_;refine gAo (u:=(.st [.i .i64 a4,.s a5,.sl 3 (jH a6)])) ?_;refine uZ 2 rfl rfl ?_;obtain⟨⟨a7,a8,a9⟩,ca,h⟩:=gM h;refine zZ (hJi (gPb [98,111,120] [(gB.mk a4 a5 a6)] ca)) ?_;refine gPz (us:=jH [(gB.mk aq ar au),(gB.mk av aw ax),(gB.mk ay a0 a3),(gB.mk a7 a8 a9)]) ?_;refine uZ 3 rfl rfl ?_;obtain⟨⟨⟨cb,cc,cd⟩,⟨ce,cf,cg⟩⟩,ch,h⟩:=gM h;refine gA7 0 (hFa (jB.mk y aa ab) [(gB.mk aq ar au),(gB.mk av aw ax),(gB.mk ay a0 a3),(gB.mk a7 a8 a9)] ch) ?_;obtain⟨⟨bh,bi,bj⟩,ci,h⟩:=gM h;refine jI (gF (hNv _ _ ci)) ?_;refine jG ?_;obtain rfl:=Option.some.inj h;exact yK [.d (.st [.i .i64 bh,.s bi,.sl 3 (jH bj)])] _ ⟨rfl,rfl⟩
   ·refine goS ?_;refine kX (fun bk=>?_) (fun bk=>?_)
    ·replace h:=kD bk h;refine goL ?_;obtain⟨⟨bl,bm,bn⟩,cj,h⟩:=qA h;have sx21:=gPa [97];rw [cj] at sx21;refine jI (gF (sx21)) ?_;refine jG ?_;obtain rfl:=Option.some.inj h;exact yK [.d (.st [.i .i64 bl,.s bm,.sl 3 (jH bn)])] _ ⟨rfl,rfl⟩
    ·replace h:=kE bk h;refine goS ?_;obtain⟨⟨db,⟨ad,ae,ag⟩⟩,ck,h⟩:=gM h;refine gA7 0 (gJ2 (jB.mk y aa ab) 2 ck) ?_;refine goC h ?_ ?_<;>intro dh h
     ·refine goL ?_;refine qK (pU) ?_;obtain⟨⟨⟨ah,ai,aj⟩,⟨cl,cm,cn⟩⟩,co,h⟩:=gM h;refine gA7 0 (f (jB.mk ad ae ag) (IntKind.i64.wrap (a1 - 1)) co) ?_;refine gAo (u:=(.st [.i .i64 ah,.s ai,.sl 3 (jH aj)])) ?_;refine uZ 2 rfl rfl ?_;obtain⟨⟨bo,bp,bq⟩,cp,h⟩:=gM h;refine gBn (hJi (gPb [98,111,120] [(gB.mk ah ai aj)] cp)) ?_;refine jG ?_;obtain rfl:=Option.some.inj h;exact yK [.d (.st [.i .i64 bo,.s bp,.sl 3 (jH bq)])] _ ⟨rfl,rfl⟩
     ·refine goS ?_;refine qK (pU) ?_;obtain⟨⟨⟨ak,al,am⟩,⟨ba,bb,bc⟩⟩,cq,h⟩:=gM h;refine gA7 0 (f (jB.mk ad ae ag) (IntKind.i64.wrap (a1 - 1)) cq) ?_;refine goL ?_;refine qK (pU) ?_;obtain⟨⟨⟨an,ao,ap⟩,⟨cr,cs,ct⟩⟩,cu,h⟩:=gM h;refine gA7 0 (f (jB.mk ba bb bc) (IntKind.i64.wrap (a1 - 1)) cu) ?_;refine gPz (us:=jH [(gB.mk ak al am),(gB.mk an ao ap)]) ?_;refine uZ 2 rfl rfl ?_;obtain⟨⟨br,bt,bu⟩,cv,h⟩:=gM h;refine gBn (hJi (gPb [112,97,105,114] [(gB.mk ak al am),(gB.mk an ao ap)] cv)) ?_;refine jG ?_;obtain rfl:=Option.some.inj h;exact yK [.d (.st [.i .i64 br,.s bt,.sl 3 (jH bu)])] _ ⟨rfl,rfl⟩
def gHi:Nat→jB→Int→Option (gB × jB)
 | 0,_,_=>none
 | n+1,c,f=>gR1 (gHi n) c f
theorem kM:∀(n:Nat)(c:jB)(f:Int){r:gB × jB},gHi n c f=some r→Go.Eng.Spec Tryz.prog 21 [.ptr 0 0,.I f] [bCu c.b c.i c.h] (fun sv Lo=>sv=.d (jS r.1)∧Lo=[bCu r.2.b r.2.i r.2.h]):=by
 intro n
 induction n with
 | zero=>intro c f r h;cases h
 | succ n ih=>intro c f r h;exact hSf ih c f h
def gAe(f:LS):LS→Nat→Option (Bool)
 | [],c=>(some true)
 | h::xs,c=>gd (0≤(c:Int)∧(c:Int)≤(f.length:Int)) (
(cnd (wM (f.take (Int.toNat (c:Int))) h) (
(some false)) (
gAe f xs (c+1))))
def wT(c:LS):Option (Bool):=
gAe c c 0
theorem gBk(y:LS){r:Bool}(h:wT y=some r):gY Tryz.prog 140 [.L 1 (jL y)] [.b r]:=by
 unfold wT at h;refine SpI Tryz.func140 fun A _=>?_;refine goL ?_;refine noB ?_;refine gB0 0 (fun z2=>?_);refine mV (fun(f:Nat)=>⟨[(0,.L 1 (jL y)),(3,.N f)],[],Tryz.f140.ntmps⟩) (fun f=>gAe y (y.drop f) f=some r) (fun f=>y.length - f) 0 eJ h ?_;rintro f h;refine goL ?_;refine kX (fun c3=>?_) (fun c3=>?_)
 ·have c:=uR c3;obtain⟨x4,ac,aa⟩:=drop_at c;rw [aa,gAe.eq_2] at h;refine noS ?_;refine jY (jA ?_);refine goL ?_;obtain⟨g5,h⟩:=mY h;refine gFd (hWo g5) ?_;refine goL ?_;refine gFd (jJ f (gQr ac)) ?_;refine goL ?_;refine gFd (gF (gGg (y.take (Int.toNat (f:Int))) x4)) ?_;refine goC h ?_ ?_<;>intro c6 h
  ·exact goR h
  ·refine goS ?_;refine jI (jW f (by omega)) ?_;exact⟨(f+1),h,by omega,eJ⟩
 ·have c:=uS c3;rw [jC c,gAe.eq_1] at h;refine goX ?_;refine jG ?_;cases h;exact qD
def gJ1(c:gB→Int→Option (Int))(y:gB):Nat→Int→Int→Option (Int)
 | 0,f,h=>none
 | n3+1,f,h=>lt_ ((cnd (decide (h < (y.args.length:Int))) ((decide (f≥0))) (false))) fun b4=>
(cnd b4 (
bnd (at? y.args h) fun x7=>
bnd (c x7 f) fun x8=>
gJ1 c y n3 x8 (IntKind.i64.wrap (h+1))) (
(some f)))
def gVs(c:gB→Int→Option (Int))(f:gB)(a1:Int)(h:Nat):Option (Int):=
gJ1 c f h (IntKind.i64.wrap (a1 - 1)) 0
theorem hNq{c:gB→Int→Option (Int)}(f:∀(x0:gB)(x1:Int){r:Int},c x0 x1=some r→gY Tryz.prog 243 [.d (jS x0),.I x1] [.i .i64 r])(a0:gB)(a1:Int){n0:Nat}{r:Int}(h:gVs c a0 a1 n0=some r):gY Tryz.prog 243 [.d (jS a0),.I a1] [.i .i64 r]:=by
 obtain⟨y,aa,ab⟩:=a0;unfold gVs at h;refine SpI Tryz.func243 fun A _=>?_;refine goL ?_;refine jI (pU) ?_;refine noB ?_;refine kS (fun(n3:Nat)(y1:Int)(y2:Int)=>⟨[(1,.I y1),(2,.ptr 0 0),(5,.I y2)],[bTy y aa ab],Tryz.f243.ntmps⟩) (fun n3 y1 y2=>gJ1 c (gB.mk y aa ab) n3 y1 y2=some r) (fun n3 y1 y2=>n3) n0 (IntKind.i64.wrap (a1 - 1)) 0 eJ h ?_;rintro n3 y1 y2 h;rcases n3 with _ | n3
 ·cases h
 rw [gJ1.eq_2] at h;refine goL ?_;obtain⟨b4,hb4,h⟩:=qA h;refine jT ⟨[(1,.I y1),(2,.ptr 0 0),(5,.I y2),(16,.B b4)],[bTy y aa ab],Tryz.f243.ntmps⟩ ?_ ?_
 ·exact gqZ 13 hb4
 refine goC h ?_ ?_<;>intro c6 h
 ·refine noS ?_;refine jY (jA ?_);refine goL ?_;obtain⟨x7,ae,h⟩:=gM h;obtain⟨ah,ae⟩:=gDy ae;obtain⟨an,ao,ap⟩:=x7;refine jI (qW ah (zJ ae)) ?_;obtain⟨x8,aj,h⟩:=gM h;refine jI (gF (f _ _ aj)) ?_;refine jI (pU) ?_;exact⟨n3,x8,(IntKind.i64.wrap (y2+1)),h,Nat.lt_succ_self _,eJ⟩
 ·refine goX ?_;refine jG ?_;cases h;exact qD
def gVt:Nat→gB→Int→Option (Int)
 | 0,_,_=>none
 | n+1,c,f=>gVs (gVt n) c f n
theorem hNr:∀(n:Nat)(c:gB)(f:Int){r:Int},gVt n c f=some r→gY Tryz.prog 243 [.d (jS c),.I f] [.i .i64 r]:=by
 intro n
 induction n with
 | zero=>intro c f r h;cases h
 | succ n ih=>intro c f r h;exact hNq ih c f h
def gN4(c:LB):Bool:=
lt_ ((cnd (c==[105,110,116]) (true) ((c==[98,111,111,108])))) fun f=>
f
theorem hCf(c:LB):gY Tryz.prog 221 [.S c] [.b (gN4 c)]:=by
 obtain⟨r,h⟩:∃r,gN4 c=r:=⟨_,rfl⟩
 rw [h];unfold gN4 at h;refine SpI Tryz.func221 fun A _=>?_;refine goL ?_;obtain⟨f,hb1,h⟩:=qA h;refine jT ⟨[(2,.B f)],[],Tryz.f221.ntmps⟩ ?_ ?_
 ·exact gqZ 5 hb1
 refine goL ?_;refine jG ?_;subst h;exact qD
def gFo(c:kI→LS→LS→Option LS)(bound:LS):List gO7→LS→Option LS
 | [],f=>(some f)
 | h::xs,f=>gd (([]:LS).length+bound.length≤4294967296) (
gd (([]++bound).length+h.vars.length≤4294967296) (
bnd (c h.body (([]++bound)++h.vars) f) fun y=>
gFo c bound xs y))
def gFp(c:kI→LS→LS→Option LS)(e:kI)(bound:LS):List kI→Nat→LS→Option LS
 | [],f,y=>gFo c bound e.arms y
 | h::xs,f,y=>bnd (lt_ ((cnd (e.kind==8) (((f:Int)==1)) (false))) fun aa=>
(cnd aa (
gd (([]:LS).length+bound.length≤4294967296) (
gd (([]++bound).length+[e.name].length≤4294967296) (
bnd (c h (([]++bound)++[e.name]) y) fun ab=>
(some ab)))) (
bnd (c h bound y) fun ac=>
(some ac)))) fun ad=>
gFp c e bound xs (f+1) ad
def gR2(c:kI→LS→LS→Option LS)(e:kI)(bound:LS)(l0:LS):Option LS:=
lt_ ((cnd (e.kind==3) ((cnd (!(wM bound e.name)) ((!(wM l0 e.name))) (false))) (false))) fun f=>
bnd ((cnd f (
gd (l0.length+[e.name].length≤4294967296) (
(some (l0++[e.name])))) (
(some l0)))) fun h=>
gFp c e bound e.args 0 h
theorem hHf{c:kI→LS→LS→Option LS}(ab:∀(x0:kI)(x1:LS)(x2:LS)(w0:Nat){r:LS},c x0 x1 x2=some r→Go.Eng.Spec Tryz.prog 246 [.d (gCy x0),.L 1 (jL x1),.sl 0 w0] [.own 9 1 w0 (jL x2)] (fun sv Lo=>∃v'0,sv=.sl 0 v'0∧Lo=[.own 9 1 v'0 (jL r)]))(e:kI)(bound:LS)(l0:LS)(v0:Nat){r:LS}(h:gR2 c e bound l0=some r):Go.Eng.Spec Tryz.prog 246 [.d (gCy e),.L 1 (jL bound),.sl 0 v0] [.own 9 1 v0 (jL l0)] (fun sv Lo=>∃v'0,sv=.sl 0 v'0∧Lo=[.own 9 1 v'0 (jL r)]):=by
 obtain⟨ah,ai,ac,aj,⟨f,y,aa⟩,ae,ag⟩:=e;unfold gR2 at h;refine kF 1 Tryz.func246 rfl (by kernel_rfl) rfl rfl fun A _=>?_;refine goL ?_;obtain⟨b1,hb1,h⟩:=qA h;refine jT ⟨[(1,.L 1 (jL bound)),(2,.sl 0 v0),(3,.ptr 1 0),(26,.B b1)],[.own 9 1 v0 (jL l0),bEx ah ai ac aj f y aa ae ag],Tryz.f246.ntmps⟩ ?_ ?_
 ·refine gqA 13 hb1 (fun c2 hb1=>?_);refine jI (gF (gGg bound ac)) ?_;refine gqA 20 hb1 (fun c3 hb1=>?_);refine gBn (gV9 (gGg l0 ac)) ?_;cases hb1;exact eJ
 refine goL ?_;obtain⟨b4,hb4,h⟩:=gM h;refine gNi (fun v5=>⟨[(1,.L 1 (jL bound)),(2,.sl 0 v5),(3,.ptr 1 0)],[.own 9 1 v5 (jL b4),bEx ah ai ac aj f y aa ae ag],Tryz.f246.ntmps⟩) ?_ (fun v5=>?_)
 ·refine kX (fun c6=>?_) (fun c6=>?_)
  ·replace hb4:=kD c6 hb4;refine goL ?_;refine gBc ac ?_;obtain⟨g7,hb4⟩:=mY hb4;refine gIe g7 ?_;refine goL ?_;cases hb4;exact⟨(v0+1),eJ⟩
  ·replace hb4:=kE c6 hb4;refine gAn ?_;cases hb4;exact⟨v0,eJ⟩
 refine goL ?_;refine noB ?_;refine wJ 1 7 (fun cj=>?_);refine kS (fun(ad:Nat)(y8:LS)(v9:Nat)=>⟨[(1,.L 1 (jL bound)),(2,.sl 0 v9),(3,.ptr 1 0),(7,.N ad)],[.own 9 1 v9 (jL y8),bEx ah ai ac aj f y aa ae ag],Tryz.f246.ntmps⟩) (fun ad y8 v9=>gFp c (kI.mk ah ai ac aj (gB.mk f y aa) ae ag) bound (ae.drop ad) ad y8=some r) (fun ad y8 v9=>ae.length - ad) 0 b4 v5 eJ h ?_;rintro ad y8 v9 h;refine goL ?_;refine kX (fun bi=>?_) (fun bi=>?_)
 ·have al:=uR bi;obtain⟨b3,bg,bj⟩:=drop_at al;rw [bj,gFp.eq_2] at h;obtain⟨ay,a0,a3,a4,⟨an,ao,ap⟩,a5,a6⟩:=b3;refine noS ?_;refine jY ?_;obtain⟨bu,hb14,h⟩:=gM h;refine gNi (fun bf=>⟨[(1,.L 1 (jL bound)),(2,.sl 0 bf),(3,.ptr 1 0),(7,.N ad)],[.own 9 1 bf (jL bu),bEx ah ai ac aj f y aa ae ag],Tryz.f246.ntmps⟩) ?_ (fun bf=>?_)
  ·refine jA ?_;refine goL ?_;obtain⟨b5,hb16,hb14⟩:=qA hb14;refine jT ⟨[(1,.L 1 (jL bound)),(2,.sl 0 v9),(3,.ptr 1 0),(7,.N ad),(8,.L 1 (jL bound)),(46,.B b5)],[.own 9 1 v9 (jL y8),bEx ah ai ac aj f y aa ae ag],Tryz.f246.ntmps⟩ ?_ ?_
   ·exact gqZ 43 hb16
   refine goL ?_;refine kX (fun bk=>?_) (fun bk=>?_)
   ·replace hb14:=kD bk hb14;obtain⟨bl,hb14⟩:=mY hb14;obtain⟨bm,hb14⟩:=mY hb14;refine gWg (P:=Tryz.prog) Mix.h (.q 1 (.q 3 (.q 4 (.h 0 (.h 2 (.h 5 (.h 6 (.q 7 .nil) .nil) .nil) (.h 5 (.h 2 (.h 6 (.q 7 .nil) .nil) .nil) .nil)) (.h 5 (.h 0 (.h 2 (.h 6 (.q 7 .nil) .nil) .nil) .nil) .nil))))) ⟨[(1,.L 1 (jL bound)),(2,.sl 0 v9),(3,.ptr 1 0),(7,.N ad),(8,.sl 2 ((0+1)+1))],[.own 9 1 v9 (jL y8),bEx ah ai ac aj f y aa ae ag,.own 9 1 ((0+1)+1) (jL (([]++bound)++[ac])),.dead 1],Tryz.f246.ntmps⟩ (by kernel_rfl) ?_ ?_
    ·refine goT ?_;refine uV (hTo jU) ?_ ?_
     ·refine uV (gWf (T:=57) bl jU) ?_ ?_
      ·refine jR (gYh (T:=57) (ac:LB) jU) ?_;refine jR (gWf (T:=57) bm jU) ?_;refine goT ?_;refine jV ?_;exact qX 1 [0,1,2,3]
      refine jR (gYh (T:=57) (ac:LB) jU) ?_;refine jR (gWf (T:=57) bl jU) ?_;refine jR (gWf (T:=57) bm jU) ?_;refine goT ?_;refine jV ?_;exact qX 1 [0,1,2,3]
     refine jR (gYh (T:=57) (ac:LB) jU) ?_;refine jR (hTo jU) ?_;refine jR (gWf (T:=57) bl jU) ?_;refine jR (gWf (T:=57) bm jU) ?_;refine goT ?_;refine jV ?_;exact qX 1 [0,1,3,2]
    refine goL ?_;refine jI (jJ ad (hAg bg)) ?_;refine gJp 2 rfl rfl ?_;obtain⟨b6,bv,hb14⟩:=gM hb14;refine yJ [0] (ab (kI.mk ay a0 a3 a4 (gB.mk an ao ap) a5 a6) (([]++bound)++[ac]) y8 v9 bv) ?_;rintro _ _ ⟨bn,rfl,rfl⟩;show VO _ _ _ _ ⟨(_,.sl 0 bn)::_,[.own 9 1 bn (jL b6),bEx ah ai ac aj f y aa ae ag,.frz 9 1 ((0+1)+1) (jL (([]++bound)++[ac])),.dead 1],_⟩ _;refine goL ?_;cases hb14;exact⟨bn,eJ⟩
   ·replace hb14:=kE bk hb14;refine goS ?_;refine jI (jJ ad (hAg bg)) ?_;obtain⟨b7,bw,hb14⟩:=gM hb14;refine yJ [0] (ab (kI.mk ay a0 a3 a4 (gB.mk an ao ap) a5 a6) bound y8 v9 bw) ?_;rintro _ _ ⟨bo,rfl,rfl⟩;show VO _ _ _ _ ⟨(_,.sl 0 bo)::_,[.own 9 1 bo (jL b7),bEx ah ai ac aj f y aa ae ag],_⟩ _;refine goL ?_;cases hb14;exact⟨bo,eJ⟩
  refine goL ?_;refine jI (jW ad (by omega)) ?_;exact⟨(ad+1),bu,bf,h,by omega,eJ⟩
 ·have al:=uS bi;rw [jC al,gFp.eq_1] at h;refine goX ?_;refine noB ?_;refine wJ 1 8 (fun ck=>?_);refine kS (fun(ak:Nat)(aw:LS)(aq:Nat)=>⟨[(1,.L 1 (jL bound)),(2,.sl 0 aq),(3,.ptr 1 0),(9,.N ak)],[.own 9 1 aq (jL aw),bEx ah ai ac aj f y aa ae ag],Tryz.f246.ntmps⟩) (fun ak aw aq=>gFo c bound (ag.drop ak) aw=some r) (fun ak aw aq=>ag.length - ak) 0 y8 v9 eJ h ?_;rintro ak aw aq h;refine goL ?_;refine kX (fun bp=>?_) (fun bp=>?_)
  ·have am:=uR bp;obtain⟨b8,bh,bq⟩:=drop_at am;rw [bq,gFo.eq_2] at h;obtain⟨b9,a7,⟨a8,a9,ba,bb,⟨ar,au,av⟩,bc,bd⟩⟩:=b8;refine noS ?_;refine jY (jA ?_);refine uM (P:=Tryz.prog) Mix.h [(0,true),(1,true),(2,true),(3,true),(4,true),(5,true),(7,true),(9,true),(10,true),(11,true),(12,true),(13,true),(14,true),(16,true),(6,false),(8,false),(15,false),(17,false),(18,true)] (by kernel_rfl) ?_;refine goY ?_;refine jF rfl (jJ ak (hJk bh)) ?_;refine goY ?_;refine jF rfl (jJ ak (hJk bh)) ?_;refine goY ?_;refine hTo ?_;obtain⟨ca,h⟩:=mY h;refine gWf (T:=57) ca ?_;obtain⟨cb,h⟩:=mY h;refine gWf (T:=57) cb ?_;refine gKa 2 rfl rfl ?_;obtain⟨bx,bz,h⟩:=gM h;refine gS1 [0] (ab (kI.mk a8 a9 ba bb (gB.mk ar au av) bc bd) (([]++bound)++a7) aw aq bz) ?_;rintro _ _ ⟨br,rfl,rfl⟩;refine gQe (sv:=.sl 0 br) (L':=[.own 9 1 br (jL bx),bEx ah ai ac aj f y aa ae ag,.frz 9 1 ((0+1)+1) (jL (([]++bound)++a7))]) (by repeat(first | exact uY.nil | (apply uY.keep;focus ((repeat constructor);done)) | (apply uY.dep;focus kernel_rfl))) ?_;refine goY ?_;refine kQ ?_;refine goL ?_;refine jI (jW ak (by omega)) ?_;exact⟨(ak+1),bx,br,h,by omega,eJ⟩
  ·have am:=uS bp;rw [jC am,gFo.eq_1] at h;refine goX ?_;refine jG ?_;obtain rfl:=Option.some.inj h;exact yK [.sl 0 aq] _ ⟨aq,rfl,rfl⟩
def gR3:Nat→kI→LS→LS→Option LS
 | 0,_,_,_=>none
 | n+1,c,f,h=>gR2 (gR3 n) c f h
theorem hHg:∀(n:Nat)(c:kI)(f:LS)(y:LS)(w0:Nat){r:LS},gR3 n c f y=some r→Go.Eng.Spec Tryz.prog 246 [.d (gCy c),.L 1 (jL f),.sl 0 w0] [.own 9 1 w0 (jL y)] (fun sv Lo=>∃v'0,sv=.sl 0 v'0∧Lo=[.own 9 1 v'0 (jL r)]):=by
 intro n
 induction n with
 | zero=>intro c f y w0 r h;cases h
 | succ n ih=>intro c f y w0 r h;exact hHf ih c f y w0 h
def gIg(c:kI→Int→Option (Int))(y:kI):Nat→Int→Int→Option (Int)
 | 0,h,f=>none
 | aa+1,h,f=>lt_ ((cnd (decide (f < (y.arms.length:Int))) ((decide (h≥0))) (false))) fun ab=>
(cnd ab (
bnd (at? y.arms f) fun ac=>
bnd (c ac.body h) fun ad=>
gIg c y aa ad (IntKind.i64.wrap (f+1))) (
(some h)))
def gIh(c:kI→Int→Option (Int))(f:kI)(n0:Nat):Nat→Int→Int→Option (Int)
 | 0,h,y=>none
 | n3+1,h,y=>lt_ ((cnd (decide (y < (f.args.length:Int))) ((decide (h≥0))) (false))) fun b4=>
(cnd b4 (
bnd (at? f.args y) fun x7=>
bnd (c x7 h) fun x8=>
gIh c f n0 n3 x8 (IntKind.i64.wrap (y+1))) (
gIg c f n0 h 0))
def gR4(c:kI→Int→Option (Int))(h:kI)(a1:Int)(f:Nat):Option (Int):=
gIh c h f f (IntKind.i64.wrap (a1 - 1)) 0
theorem hHh{c:kI→Int→Option (Int)}(ab:∀(x0:kI)(x1:Int){r:Int},c x0 x1=some r→gY Tryz.prog 247 [.d (gCy x0),.I x1] [.i .i64 r])(a0:kI)(a1:Int){n0:Nat}{r:Int}(h:gR4 c a0 a1 n0=some r):gY Tryz.prog 247 [.d (gCy a0),.I a1] [.i .i64 r]:=by
 obtain⟨ac,ad,ae,ag,⟨f,y,aa⟩,ah,ai⟩:=a0;unfold gR4 at h;refine SpI Tryz.func247 fun A _=>?_;refine goL ?_;refine jI (pU) ?_;refine noB ?_;refine kS (fun(n3:Nat)(y1:Int)(y2:Int)=>⟨[(1,.I y1),(2,.ptr 0 0),(5,.I y2)],[bEx ac ad ae ag f y aa ah ai],Tryz.f247.ntmps⟩) (fun n3 y1 y2=>gIh c (kI.mk ac ad ae ag (gB.mk f y aa) ah ai) n0 n3 y1 y2=some r) (fun n3 y1 y2=>n3) n0 (IntKind.i64.wrap (a1 - 1)) 0 eJ h ?_;rintro n3 y1 y2 h;rcases n3 with _ | n3
 ·cases h
 rw [gIh.eq_2] at h;refine goL ?_;obtain⟨b4,hb4,h⟩:=qA h;refine jT ⟨[(1,.I y1),(2,.ptr 0 0),(5,.I y2),(17,.B b4)],[bEx ac ad ae ag f y aa ah ai],Tryz.f247.ntmps⟩ ?_ ?_
 ·exact gqZ 14 hb4
 refine goC h ?_ ?_<;>intro c6 h
 ·refine noS ?_;refine jY (jA ?_);refine goL ?_;obtain⟨x7,ap,h⟩:=gM h;obtain⟨ax,ap⟩:=gDy ap;obtain⟨bm,bn,bo,bp,⟨ba,bb,bc⟩,bq,br⟩:=x7;refine jI (qW ax (hAg ap)) ?_;obtain⟨x8,be,h⟩:=gM h;refine jI (gF (ab _ _ be)) ?_;refine jI (pU) ?_;exact⟨n3,x8,(IntKind.i64.wrap (y2+1)),h,Nat.lt_succ_self _,eJ⟩
 ·refine goX ?_;refine noB ?_;refine kS (fun(aj:Nat)(y9:Int)(ak:Int)=>⟨[(1,.I y9),(2,.ptr 0 0),(6,.I ak)],[bEx ac ad ae ag f y aa ah ai],Tryz.f247.ntmps⟩) (fun aj y9 ak=>gIg c (kI.mk ac ad ae ag (gB.mk f y aa) ah ai) aj y9 ak=some r) (fun aj y9 ak=>aj) n0 y1 0 eJ h ?_;rintro aj y9 ak h;rcases aj with _ | aj
  ·cases h
  rw [gIg.eq_2] at h;refine goL ?_;obtain⟨bf,hb12,h⟩:=qA h;refine jT ⟨[(1,.I y9),(2,.ptr 0 0),(6,.I ak),(35,.B bf)],[bEx ac ad ae ag f y aa ah ai],Tryz.f247.ntmps⟩ ?_ ?_
  ·exact gqZ 32 hb12
  refine goC h ?_ ?_<;>intro bw h
  ·refine noS ?_;refine jY (jA ?_);refine goL ?_;obtain⟨bg,al,h⟩:=gM h;obtain⟨aq,al⟩:=gDy al;obtain⟨bh,bi,⟨ay,a3,a4,a5,⟨ar,au,av⟩,a6,a7⟩⟩:=bg;refine jI (qW aq (hJk al)) ?_;obtain⟨bj,a8,h⟩:=gM h;refine jI (gF (ab _ _ a8)) ?_;refine jI (pU) ?_;exact⟨aj,bj,(IntKind.i64.wrap (ak+1)),h,Nat.lt_succ_self _,eJ⟩
  ·refine goX ?_;refine jG ?_;cases h;exact qD
def gR5:Nat→kI→Int→Option (Int)
 | 0,_,_=>none
 | n+1,c,f=>gR4 (gR5 n) c f n
theorem hHl:∀(n:Nat)(c:kI)(f:Int){r:Int},gR5 n c f=some r→gY Tryz.prog 247 [.d (gCy c),.I f] [.i .i64 r]:=by
 intro n
 induction n with
 | zero=>intro c f r h;cases h
 | succ n ih=>intro c f r h;exact hHh ih c f h
def gAf(c:gB):Bool:=
lt_ ((cnd (c.kind==0) ((cnd (c.name==[]) (((c.args.length:Int)==0)) (false))) (false))) fun f=>
f
theorem gC3(a0:gB):gY Tryz.prog 216 [.d (jS a0)] [.b (gAf a0)]:=by
 obtain⟨r,h⟩:∃r,gAf a0=r:=⟨_,rfl⟩
 rw [h];obtain⟨c,f,y⟩:=a0;unfold gAf at h;refine SpI Tryz.func216 fun A _=>?_;refine goL ?_;obtain⟨b1,hb1,h⟩:=qA h;refine jT ⟨[(2,.B b1)],[bTy c f y],Tryz.f216.ntmps⟩ ?_ ?_
 ·refine uD 6 (fun c2=>?_) (fun c2=>?_) (by first | rfl | (simp only [jE,gU];rfl))
  ·replace hb1:=kD c2 hb1;refine goL ?_;refine uD 11 (fun c3=>?_) (fun c3=>?_) (by first | rfl | (simp only [jE,gU];rfl))
   ·replace hb1:=kD c3 hb1;refine goL ?_;cases hb1;exact⟨rfl,⟨⟨by first | rfl | (simp only [jE,gU];rfl),rfl⟩,trivial⟩,⟨_,rfl⟩,rfl⟩
   ·replace hb1:=kE c3 hb1;refine goL ?_;cases hb1;exact⟨rfl,⟨⟨by first | rfl | (simp only [jE,gU];rfl),rfl⟩,trivial⟩,⟨_,rfl⟩,rfl⟩
  ·replace hb1:=kE c2 hb1;refine goL ?_;cases hb1;exact⟨rfl,⟨⟨by first | rfl | (simp only [jE,gU];rfl),rfl⟩,trivial⟩,⟨_,rfl⟩,rfl⟩
 refine goL ?_;refine jG ?_;subst h;exact qD
def gGt(c:Int):Bool × Bool × Bool × Bool × Int × Bool:=
(cnd (c==1) (
(false,false,true,false,0,false)) (
(cnd (c==2) (
(false,false,true,false,0,false)) (
(cnd (c==3) (
(false,true,false,false,0,false)) (
(cnd (c==4) (
(false,true,false,false,(-1),false)) (
(cnd (c==6) (
(false,true,false,false,(-1),false)) (
(cnd (c==5) (
(true,true,false,false,(-1),false)) (
(cnd (c==7) (
(false,false,false,false,1,true)) (
(cnd (c==8) (
(false,true,false,false,2,false)) (
(cnd (c==10) (
(false,true,false,false,2,false)) (
(cnd (c==9) (
(false,false,false,false,3,false)) (
(cnd (c==11) (
(true,false,false,false,1,false)) (
(false,false,false,true,1,false)))))))))))))))))))))))
theorem hNt(c:Int):gY Tryz.prog 253 [.I c] [.b (gGt c).1,.b (gGt c).2.1,.b (gGt c).2.2.1,.b (gGt c).2.2.2.1,.i .i64 (gGt c).2.2.2.2.1,.b (gGt c).2.2.2.2.2]:=by
 obtain⟨r,h⟩:∃r,gGt c=r:=⟨_,rfl⟩
 rw [h];unfold gGt at h;refine SpI Tryz.func253 fun A _=>?_;refine goL ?_;refine jA ?_;refine goC h ?_ ?_<;>intro c1 h
 ·refine noS ?_;refine kX (fun c2=>?_) (fun c2=>?_)
  ·refine goL ?_;refine jG ?_;subst h;exact qD
  ·exact absurd (c1.symm.trans c2) (by decide)
 ·refine goC h ?_ ?_<;>intro c3 h
  ·refine goL ?_;refine jG ?_;subst h;exact qD
  ·refine goC h ?_ ?_<;>intro c4 h
   ·refine goL ?_;refine jG ?_;subst h;exact qD
   ·refine goC h ?_ ?_<;>intro c5 h
    ·refine noS ?_;refine kX (fun c6=>?_) (fun c6=>?_)
     ·refine goL ?_;refine jG ?_;subst h;exact qD
     ·exact absurd (c5.symm.trans c6) (by decide)
    ·refine goC h ?_ ?_<;>intro c7 h
     ·refine goL ?_;refine jG ?_;subst h;exact qD
     ·refine goC h ?_ ?_<;>intro c8 h
      ·refine goL ?_;refine jG ?_;subst h;exact qD
      ·refine goC h ?_ ?_<;>intro c9 h
       ·refine goL ?_;refine jG ?_;subst h;exact qD
       ·refine goC h ?_ ?_<;>intro y h
        ·refine noS ?_;refine kX (fun f=>?_) (fun f=>?_)
         ·refine goL ?_;refine jG ?_;subst h;exact qD
         ·exact absurd (y.symm.trans f) (by decide)
        ·refine goC h ?_ ?_<;>intro ae h
         ·refine goL ?_;refine jG ?_;subst h;exact qD
         ·refine goC h ?_ ?_<;>intro ag h
          ·refine goL ?_;refine jG ?_;subst h;exact qD
          ·refine goC h ?_ ?_<;>intro ah h
           ·refine goL ?_;refine jG ?_;subst h;exact qD
           ·refine goS ?_;refine jG ?_;subst h;exact qD
def gN5(c:LB):Bool:=
(wM [[43],[45],[42],[60],[61]] c)
theorem hHm(c:LB):gY Tryz.prog 254 [.S c] [.b (gN5 c)]:=by
 obtain⟨r,h⟩:∃r,gN5 c=r:=⟨_,rfl⟩
 rw [h];unfold gN5 at h;refine SpI Tryz.func254 fun A _=>?_;refine goL ?_;refine gPz (us:=jL [[43],[45],[42],[60],[61]]) ?_;refine goL ?_;refine gBn (gV9 (gGg [[43],[45],[42],[60],[61]] c)) ?_;refine jG ?_;subst h;exact qD
def gD6(a1:LS):LS→Nat→Option (Bool)
 | [],c=>(some true)
 | f::xs,c=>bnd (at? a1 (c:Int)) fun h=>
(cnd (!(f==h)) (
(some false)) (
gD6 a1 xs (c+1)))
def gPg(c:LS)(a1:LS):Option (Bool):=
(cnd ((c.length:Int) !=(a1.length:Int)) (
(some false)) (
gD6 a1 c 0))
theorem hE8(y:LS)(a1:LS){r:Bool}(h:gPg y a1=some r):gY Tryz.prog 252 [.L 1 (jL y),.L 1 (jL a1)] [.b r]:=by
 unfold gPg at h;refine SpI Tryz.func252 fun A _=>?_;refine goC h ?_ ?_<;>intro c1 h
 ·exact goR h
 ·refine goS ?_;refine noB ?_;refine gB0 0 (fun z3=>?_);refine mV (fun(f:Nat)=>⟨[(0,.L 1 (jL y)),(1,.L 1 (jL a1)),(5,.N f)],[],Tryz.f252.ntmps⟩) (fun f=>gD6 a1 (y.drop f) f=some r) (fun f=>y.length - f) 0 eJ h ?_;rintro f h;refine goL ?_;refine kX (fun c4=>?_) (fun c4=>?_)
  ·have c:=uR c4;obtain⟨x5,ad,aa⟩:=drop_at c;rw [aa,gD6.eq_2] at h;refine noS ?_;refine jY (jA ?_);refine goL ?_;refine gFd (jJ f (gQr ad)) ?_;refine goL ?_;obtain⟨x6,ab,h⟩:=gM h;rw [zI] at ab;refine gFd (jJ f (gQr ab)) ?_;refine goC h ?_ ?_<;>intro c7 h
   ·exact goR h
   ·refine goS ?_;refine jI (jW f (by omega)) ?_;exact⟨(f+1),h,by omega,eJ⟩
  ·have c:=uS c4;rw [jC c,gD6.eq_1] at h;refine goX ?_;refine jG ?_;cases h;exact qD
def mF(c:LB):gD:=
(gD.mk c [])
theorem mO(c:LB):gY Tryz.prog 205 [.S c] [pJ (mF c)]:=by
 obtain⟨r,h⟩:∃r,mF c=r:=⟨_,rfl⟩
 rw [h];unfold mF at h;refine SpI Tryz.func205 fun A _=>?_;refine goL ?_;refine gBn (jX TBd.h TZ.h rfl (by repeat constructor)) ?_;refine jG ?_;subst h;exact qD
def qO(c:gB→Option (Bool))(f:gB):List gB→Option (Bool)
 | []=>(some (f.kind==3))
 | h::xs=>bnd (c h) fun y=>
(cnd y (
(some true)) (
qO c f xs ))
def gC9(c:gB→Option (Bool))(f:gB):Option (Bool):=
qO c f f.args
theorem gQp{c:gB→Option (Bool)}(f:∀(x0:gB){r:Bool},c x0=some r→gY Tryz.prog 13 [.d (jS x0)] [.b r])(a0:gB){r:Bool}(h:gC9 c a0=some r):gY Tryz.prog 13 [.d (jS a0)] [.b r]:=by
 obtain⟨ac,ad,aa⟩:=a0;unfold gC9 at h;refine SpI Tryz.func13 fun A _=>?_;refine goL ?_;refine noB ?_;refine wJ 0 2 (fun z2=>?_);refine mV (fun(y1:Nat)=>⟨[(1,.ptr 0 0),(3,.N y1)],[bTy ac ad aa],Tryz.f13.ntmps⟩) (fun y1=>qO c (gB.mk ac ad aa) (aa.drop y1)  =some r) (fun y1=>aa.length - y1) 0 eJ h ?_;rintro y1 h;refine goL ?_;refine kX (fun c3=>?_) (fun c3=>?_)
 ·have y:=uR c3;obtain⟨x4,ai,ae⟩:=drop_at y;rw [ae,qO.eq_2] at h;obtain⟨am,an,ao⟩:=x4;refine noS ?_;refine jY (jA ?_);refine goL ?_;refine jI (jJ y1 (zJ ai)) ?_;obtain⟨x5,aj,h⟩:=gM h;refine jI (gF (f _ aj)) ?_;refine kX (fun c6=>?_) (fun c6=>?_)
  ·replace h:=kD c6 h;exact goR h
  ·replace h:=kE c6 h;refine goS ?_;refine jI (jW y1 (by omega)) ?_;exact⟨(y1+1),h,by omega,eJ⟩
 ·have y:=uS c3;rw [jC y,qO.eq_1] at h;refine goX ?_;refine jG ?_;cases h;exact qD
def uL:Nat→gB→Option (Bool)
 | 0,_=>none
 | n+1,c=>gC9 (uL n) c
theorem gDa:∀(n:Nat)(c:gB){r:Bool},uL n c=some r→gY Tryz.prog 13 [.d (jS c)] [.b r]:=by
 intro n
 induction n with
 | zero=>intro c r h;cases h
 | succ n ih=>intro c r h;exact gQp ih c h
end Go.Proofs.YtegahmhnmjnhhaaGreat
