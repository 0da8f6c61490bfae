import Derived.Test.YtfpdlnkkcnmebaaGreatE2
set_option maxHeartbeats 4000000
set_option linter.unusedVariables false
set_option linter.unusedSimpArgs false
set_option linter.unusedSectionVars false
namespace Go.Proofs.YtfpdlnkkcnmebaaGreat
open Go Go.Eng
attribute [local irreducible] V VO VQ VY Quiet QR jF mJ Rng qI qJ qB
def vS(f:gM)(a1:LB)(a2:LB):Option (List Int × Bool):=
bnd (gNi 5000 f a1 a2 8) fun c=>
(some (c.1,c.2))
theorem gIg(c:gM)(a1:LB)(a2:LB){r:List Int × Bool}(h:vS c a1 a2=some r):jF Tryz.prog 78 [.d (kW c),.S a1,.S a2] [.sl 1 (gId r.1),.b r.2]:=by
 obtain⟨q⟩:=c;unfold vS at h;refine SpI Tryz.func78 fun A _=>?_;refine goL ?_;obtain⟨⟨y,aa⟩,f,h⟩:=gJ h;refine qM (gG (gYx _ _ _ _ _ f)) ?_;exact goR h
def qF(a0:gM)(x7:gY)(c:Bool→Option (gF × Int)):List gF→Bool→Option (gF × Int)
 | [],h=>(c h)
 | f::xs,h=>bnd (at? a0.packages f.package) fun q=>
bnd (at? q.instances f.at_) fun y=>
bnd ((cnd h (bnd (gBv y.head x7.head) fun aa=>
(some (!aa))) ((some false)))) fun ab=>
qF a0 x7 c xs ab
def qU(c:gM)(a1:gT)(y:List gF):List gF→Option (gF × Int)
 | []=>(some ((gF.mk 0 0),1))
 | f::xs=>bnd (at? c.packages f.package) fun x6=>
bnd (at? x6.instances f.at_) fun x7=>
qF c x7 (fun y9=>bnd ((cnd y9 ((cnd x7.default_ (bnd (gBw a1.type_) fun h=>
(some (!h))) ((some false)))) ((some false)))) fun q=>
(cnd q (
(some ((gF.mk 0 0),2))) (
(cnd y9 (
(some (f,0))) (
qU c a1 y xs ))))) y true
def gAf(c:gM)(a1:gT):Option (gF × Int):=
bnd (wF c a1) fun f=>
qU c a1 f f
theorem gNu(a0:gM)(a1:gT){r:gF × Int}(h:gAf a0 a1=some r):jF Tryz.prog 124 [.d (kW a0),.d (wU a1)] [qA r.1,.i .i64 r.2]:=by
 obtain⟨ag⟩:=a0;obtain⟨ah,⟨c,f,q⟩⟩:=a1;unfold gAf at h;refine SpI Tryz.func124 fun A _=>?_;refine goL ?_;obtain⟨x1,b0,h⟩:=gJ h;refine jK (gG (gKc _ _ b0)) ?_;refine noB ?_;refine gCm 6 (fun z3=>?_);refine qD (fun(y2:Nat)=>⟨[(2,.ptr 0 0),(3,.ptr 1 0),(4,.ptr 2 0),(6,.L 2 (kJ x1)),(7,.N y2)],[bPr ag,bBd ah c f q,.box [.I 0,.I 0]],Tryz.f124.ntmps⟩) (fun y2=>qU (gM.mk ag) (gT.mk ah (gB.mk c f q)) x1 (x1.drop y2)  =some r) (fun y2=>x1.length - y2) 0 eJ h ?_;rintro y2 h;refine goL ?_;refine mQ (fun c4=>?_) (fun c4=>?_)
 ·have ap:=vF c4;obtain⟨x5,a9,bo⟩:=drop_at ap;rw [bo,qU.eq_2] at h;obtain⟨bp,bq⟩:=x5;refine noS ?_;refine kH (jE ?_);refine jL (P:=Tryz.prog) Mix.h [(0,true),(1,true),(2,true),(3,true),(4,true),(5,true),(6,true),(7,true),(8,true),(9,true),(10,true),(11,true),(12,true),(13,true),(14,true),(15,true),(16,true),(17,false),(18,false)] (by kernel_rfl) ?_;refine goY ?_;refine jO rfl (jM y2 (yD a9)) ?_;refine goY ?_;obtain⟨x6,ba,h⟩:=gJ h;obtain⟨br,ba⟩:=gAz ba;obtain⟨cd,ce,cf,cg,ch,ci⟩:=x6;refine jO rfl (qY br (gBh ba)) ?_;refine goY ?_;refine jO rfl (jM y2 (yD a9)) ?_;refine goY ?_;obtain⟨x7,bb,h⟩:=gJ h;obtain⟨bt,bb⟩:=gAz bb;obtain⟨ai,aj,⟨y,aa,ab⟩,ak,al,am,⟨ac,ad,ae⟩,an⟩:=x7;refine jO rfl (qY bt (gGz bb)) ?_;refine goY ?_;refine kX ?_;refine goL ?_;refine noB ?_;refine gCm 6 (fun cm=>?_)
  refine gEt (fun(y8:Nat)(y9:Bool)=>⟨[(2,.ptr 0 0),(3,.ptr 1 0),(4,.ptr 2 0),(6,.L 2 (kJ x1)),(7,.N y2),(8,.ptr 3 0),(9,.B y9),(10,.N y8)],[bPr ag,bBd ah c f q,.box [.I 0,.I 0],bIn ai aj y aa ab ak al am ac ad ae an],Tryz.f124.ntmps⟩) (fun y8 y9=>qF (gM.mk ag) (gY.mk ai aj (gB.mk y aa ab) ak al am (gB.mk ac ad ae) an) (fun y9=>bnd ((cnd y9 ((cnd (gY.mk ai aj (gB.mk y aa ab) ak al am (gB.mk ac ad ae) an).default_ (bnd (gBw (gT.mk ah (gB.mk c f q)).type_) fun bu=>
(some (!bu))) ((some false)))) ((some false)))) fun bc=>
(cnd bc (
(some ((gF.mk 0 0),2))) (
(cnd y9 (
(some ((gF.mk bp bq),0))) (
qU (gM.mk ag) (gT.mk ah (gB.mk c f q)) x1 (x1.drop (y2+1)) ))))) (x1.drop y8) y9=some r) (fun y8 y9=>x1.length - y8) 0 true eJ h ?_
  rintro y8 y9 h;refine goL ?_;refine mQ (fun bd=>?_) (fun bd=>?_)
  ·have aq:=vF bd;obtain⟨b2,a8,be⟩:=drop_at aq;rw [be,qF.eq_2] at h;obtain⟨b3,b4⟩:=b2;refine noS ?_;refine kH (jE ?_);refine jL (P:=Tryz.prog) Mix.h [(0,true),(1,true),(2,true),(3,true),(4,true),(5,true),(6,true),(7,true),(8,true),(9,true),(10,true),(11,true),(12,true),(13,true),(14,true),(15,true),(16,true),(17,false),(18,false)] (by kernel_rfl) ?_;refine goY ?_;refine jO rfl (jM y8 (yD a8)) ?_;refine goY ?_;obtain⟨b5,av,h⟩:=gJ h;obtain⟨bf,av⟩:=gAz av;obtain⟨b6,b7,b8,b9,ca,cb⟩:=b5;refine jO rfl (qY bf (gBh av)) ?_;refine goY ?_;refine jO rfl (jM y8 (yD a8)) ?_;refine goY ?_;obtain⟨cc,aw,h⟩:=gJ h;obtain⟨bg,aw⟩:=gAz aw;obtain⟨bh,bi,⟨ax,ay,a3⟩,bj,bk,bl,⟨a4,a5,a6⟩,bm⟩:=cc;refine jO rfl (qY bg (gGz aw)) ?_;refine goY ?_;refine kX ?_;refine goL ?_;obtain⟨bv,hb15,h⟩:=gJ h;refine kC ⟨[(2,.ptr 0 0),(3,.ptr 1 0),(4,.ptr 2 0),(6,.L 2 (kJ x1)),(7,.N y2),(8,.ptr 3 0),(10,.N y8),(9,.B bv)],[bPr ag,bBd ah c f q,.box [.I 0,.I 0],bIn ai aj y aa ab ak al am ac ad ae an,bIn bh bi ax ay a3 bj bk bl a4 a5 a6 bm],Tryz.f124.ntmps⟩ ?_ ?_
   ·refine gqA 62 hb15 (fun cn hb15=>?_);obtain⟨co,bw,hb15⟩:=gJ hb15;refine jK (gG (gPz _ _ bw)) ?_;cases hb15;exact eJ
   refine goL ?_;refine jK (kD y8 (by omega)) ?_;exact⟨(y8+1),bv,h,by omega,eJ⟩
  ·have aq:=vG bd;rw [jH aq,qF.eq_1] at h;refine goX ?_;obtain⟨bc,hb18,h⟩:=gJ h;refine kC ⟨[(2,.ptr 0 0),(3,.ptr 1 0),(4,.ptr 2 0),(6,.L 2 (kJ x1)),(7,.N y2),(9,.B y9),(80,.B bc)],[bPr ag,bBd ah c f q,.box [.I 0,.I 0],bIn ai aj y aa ab ak al am ac ad ae an],Tryz.f124.ntmps⟩ ?_ ?_
   ·refine gqA 71 hb18 (fun cp hb18=>?_);refine gqA 75 hb18 (fun cq hb18=>?_);obtain⟨bu,bx,hb18⟩:=gJ hb18;refine jK (gG (gV5 _ bx)) ?_;cases hb18;exact eJ
   refine goC h ?_ ?_<;>intro cr h
   ·refine goL ?_;refine yS (jU TBd.h TZ.h rfl (by repeat constructor)) ?_;exact goR h
   ·refine goS ?_;refine mQ (fun bn=>?_) (fun bn=>?_)
    ·replace h:=kT bn h;refine goL ?_;refine qM (jM y2 (yD a9)) ?_;exact goR h
    ·replace h:=kU bn h;refine goS ?_;refine jK (kD y2 (by omega)) ?_;exact⟨(y2+1),h,by omega,eJ⟩
 ·have ap:=vG c4;rw [jH ap,qU.eq_1] at h;refine goX ?_;refine yS (jU TBd.h TZ.h rfl (by repeat constructor)) ?_;exact goR h
def gEv(c:gM)(a1:LB):Option LS:=
bnd (gLt 5000 c a1 []) fun f=>
(some f)
theorem gNv(f:gM)(a1:LB){r:LS}(h:gEv f a1=some r):jF Tryz.prog 80 [.d (kW f),.S a1] [.sl 1 (gP r)]:=by
 obtain⟨c⟩:=f;unfold gEv at h;refine SpI Tryz.func80 fun A _=>?_;refine goL ?_;refine gB9 ?_;obtain⟨x1,q,h⟩:=gJ h;refine gCl [1] (gV7 5000 (gM.mk c) a1 [] 0 q) ?_;rintro _ _ ⟨y,rfl,rfl⟩;show VO _ _ _ _ ⟨(_,.sl 1 y)::_,[bPr c,.own 9 1 y (gP x1)],_⟩ _;refine goL ?_;refine mI 1 rfl rfl ?_;refine jG ?_;cases h;exact uA
def gCb(f:gM)(a1:gF):Option (gY × Bool):=
bnd (gAk f a1) fun c=>
bnd (gKd c.1) fun h=>
(some (h,c.2))
theorem gTh(a0:gM)(a1:gF){r:gY × Bool}(h:gCb a0 a1=some r):jF Tryz.prog 9 [.d (kW a0),.d (qA a1)] [yX r.1,.b r.2]:=by
 obtain⟨au⟩:=a0;obtain⟨av,aw⟩:=a1;unfold gCb at h;refine SpI Tryz.func9 fun A _=>?_;refine goL ?_;obtain⟨⟨⟨ac,ad,⟨c,f,q⟩,ae,ag,ah,⟨y,aa,ab⟩,ai⟩,ax⟩,aq,h⟩:=gJ h;refine jK (gG (gPy _ _ aq)) ?_;obtain⟨⟨ay,a3,⟨aj,ak,al⟩,a4,a5,a6,⟨am,an,ao⟩,a7⟩,ar,h⟩:=gJ h;refine qM (gG (hAd _ ar)) ?_;exact goR h
def gEd(c:mE):List jD→(List jD)→Option (mE)
 | [],f=>gd (([]:LS).length+c.supertraits.length≤4294967296) (
(some (mE.mk c.name ([]++c.supertraits) c.auto c.assoc f)))
 | q::xs,f=>bnd (gSw q) fun h=>
gd (f.length+[h].length≤4294967296) (
gEd c xs (f++[h]))
def gNw(c:mE):Option (mE):=
gEd c c.signatures []
theorem gZe(a0:mE){r:mE}(h:gNw a0=some r):jF Tryz.prog 27 [.d (gHg a0)] [gHg r]:=by
 obtain⟨am,an,ao,ap,aa⟩:=a0;unfold gNw at h;refine SpI Tryz.func27 fun A _=>?_;refine goL ?_;refine zS ?_;refine goL ?_;refine noB ?_;refine yP 0 4 (fun z4=>?_);refine kV (fun(y3:Nat)(y1:List jD)(v2:Nat)=>⟨[(1,.ptr 0 0),(2,.ptr 1 0),(3,.sl 2 v2),(4,.N y3)],[bTr am an ao ap aa,.box [.S [],.nilsl,.B false,.B false,.nilsl],.arr 108 16 v2 (kG y1)],Tryz.f27.ntmps⟩) (fun y3 y1 v2=>gEd (mE.mk am an ao ap aa) (aa.drop y3) y1=some r) (fun y3 y1 v2=>aa.length - y3) 0 [] 0 eJ h ?_;rintro y3 y1 v2 h;refine goL ?_;refine mQ (fun c5=>?_) (fun c5=>?_)
 ·have y:=vF c5;obtain⟨x6,bh,a5⟩:=drop_at y;rw [a5,gEd.eq_2] at h;obtain⟨bj,bk,⟨a6,a7,a8⟩,bl,bm,⟨a9,ba,bb,bc,⟨ay,a3,a4⟩,bd,be⟩⟩:=x6;refine noS ?_;refine kH (jE ?_);refine goL ?_;refine jK (jM y3 (gK3 bh)) ?_;obtain⟨⟨aq,ar,⟨ab,ac,ad⟩,au,av,⟨ae,ag,ah,ai,⟨c,f,q⟩,aj,ak⟩⟩,bi,h⟩:=gJ h;refine qM (gG (hEv _ bi)) ?_;refine uQ (u:=(.st [.s aq,.sl 3 (gK ar),.st [.i .i64 ab,.s ac,.sl 3 (gK ad)],.b au,.sl 1 (gP av),.st [.i .i64 ae,.s ag,.s ah,.i .i64 ai,.st [.i .i64 c,.s f,.sl 3 (gK q)],.sl 9 (jS aj),.sl 11 (mW ak)]])) ?_;obtain⟨g8,h⟩:=pO h;refine gAi g8 ?_;refine goL ?_;refine jK (kD y3 (by omega)) ?_;exact⟨(y3+1),(y1++[(jD.mk aq ar (gB.mk ab ac ad) au av (gU.mk ae ag ah ai (gB.mk c f q) aj ak))]),(v2+1),h,by omega,eJ⟩
 ·have y:=vG c5;rw [jH y,gEd.eq_1] at h;refine goX ?_;refine gB9 ?_;refine goL ?_;obtain⟨g9,h⟩:=pO h;refine gDn g9 ?_;refine goL ?_;refine mI 3 rfl rfl ?_;refine gW 2 rfl rfl ?_;refine jG ?_;cases h;exact uA
def zT(f:gI→Option (Bool))(c:gI→Option (Bool))(h:gI):Option (Bool):=
bnd (c h) fun q=>
(some (!q))
def gCs(c:gI→Option (Bool)):Prop:=∀(f:gI){r:Bool},c f=some r→jF Tryz.prog 52 [.d (mF f)] [.b r]
def gBi(c:gI→Option (Bool)):Prop:=∀(f:gI){r:Bool},c f=some r→jF Tryz.prog 28 [.d (mF f)] [.b r]
theorem gLe{c}{f}(y:gCs c)(q:gBi f)(a0:gI){r:Bool}(h:zT c f a0=some r):jF Tryz.prog 52 [.d (mF a0)] [.b r]:=by
 obtain⟨ae,ag,⟨aa,ab⟩,ah⟩:=a0;unfold zT at h;refine SpI Tryz.func52 fun A _=>?_;refine goL ?_;obtain⟨x1,ad,h⟩:=gJ h;refine qM (gG (q _ ad)) ?_;exact goR h
def gBj(c:gI→Option (Bool))(h:gI→Option (Bool))(f:gI):Option (Bool):=
(cnd (f.kind==1) (
lt_ ((cnd (decide (f.at_.package≥0)) (((decide (f.at_.at_≥0)),(decide ((f.args.length:Int)≤4)))) ((false,(decide ((f.args.length:Int)≤4)))))) fun b2=>
bnd ((cnd b2.1 ((cnd (f.n==0) ((cnd b2.2 (bnd (kN f.args c) fun x8=>
(some (!x8))) ((some false)))) ((some false)))) ((some false)))) fun b4=>
(some b4)) (
(cnd (f.kind==2) (
bnd ((cnd (f.at_.package==0 && f.at_.at_==0) ((cnd (decide (f.n≥0)) ((cnd ((f.args.length:Int)==0) (bnd (kN f.args c) fun q=>
(some (!q))) ((some false)))) ((some false)))) ((some false)))) fun y=>
(some y)) (
(cnd (f.kind==3) (
bnd ((cnd (f.at_.package==0 && f.at_.at_==0) ((cnd (decide (f.n≥0)) ((cnd ((f.args.length:Int)==1) (bnd (kN f.args c) fun aa=>
(some (!aa))) ((some false)))) ((some false)))) ((some false)))) fun ab=>
(some ab)) (
bnd ((cnd (f.kind==4) (
(some (f.kind==4))) (
(some (f.kind==5))))) fun ac=>
(cnd ac (
bnd ((cnd (f.at_.package==0 && f.at_.at_==0) ((cnd (f.n==0) ((cnd ((f.args.length:Int)==0) (bnd (kN f.args c) fun ad=>
(some (!ad))) ((some false)))) ((some false)))) ((some false)))) fun ae=>
(some ae)) (
(some false)))))))))
theorem gMt{c}{q}(f:gCs c)(ae:gBi q)(a0:gI){r:Bool}(h:gBj c q a0=some r):jF Tryz.prog 28 [.d (mF a0)] [.b r]:=by
 obtain⟨ad,ac,⟨y,aa⟩,ab⟩:=a0;unfold gBj at h;refine SpI Tryz.func28 fun A _=>?_;refine goL ?_;refine hPi (jU TBd.h TZ.h rfl (by repeat constructor)) ?_;refine gCy (hLy) ?_;refine goL ?_;refine jE ?_;refine goC h ?_ ?_<;>intro c1 h
 ·obtain⟨⟨ai,aj⟩,hb2,h⟩:=qW h;refine hIv (P:=Tryz.prog) Mix.h ⟨[(1,.ptr 0 0),(4,.B (ac==0)),(3,.B ai),(5,.B aj)],[.box [.I ad,.I ac,.I y,.I aa,.L 5 (jP ab)]],Tryz.f28.ntmps⟩ (by kernel_rfl) ?_ ?_
  ·refine goL ?_;refine wN 25 (fun c3=>?_) (fun c3=>?_)
   ·replace hb2:=kT c3 hb2;refine goL ?_;cases hb2;exact eJ
   ·replace hb2:=kU c3 hb2;refine goL ?_;cases hb2;exact eJ
  refine goL ?_;obtain⟨b4,hb4,h⟩:=gJ h;refine kC ⟨[(2,.B b4)],[.box [.I ad,.I ac,.I y,.I aa,.L 5 (jP ab)]],Tryz.f28.ntmps⟩ ?_ ?_
  ·refine gqA 53 hb4 (fun c5 hb4=>?_);refine gqA 56 hb4 (fun c6 hb4=>?_);refine gqA 59 hb4 (fun c7 hb4=>?_);obtain⟨x8,ap,hb4⟩:=gJ hb4;refine jK (gG (pK ab (a1:=c) (fun _=>rfl) (fun x0 r hr=>f x0 hr) ap)) ?_;cases hb4;exact eJ
  exact goR h
 ·refine goC h ?_ ?_<;>intro c9 h
  ·refine goL ?_;obtain⟨aq,hb10,h⟩:=gJ h;refine kC ⟨[(2,.B aq)],[.box [.I ad,.I ac,.I y,.I aa,.L 5 (jP ab)]],Tryz.f28.ntmps⟩ ?_ ?_
   ·refine gqA 53 hb10 (fun ax hb10=>?_);refine gqA 56 hb10 (fun ay hb10=>?_);refine gqA 59 hb10 (fun a3 hb10=>?_);obtain⟨a4,ak,hb10⟩:=gJ hb10;refine jK (gG (pK ab (a1:=c) (fun _=>rfl) (fun x0 r hr=>f x0 hr) ak)) ?_;cases hb10;exact eJ
   exact goR h
  ·refine goC h ?_ ?_<;>intro a5 h
   ·refine goL ?_;obtain⟨ar,hb16,h⟩:=gJ h;refine kC ⟨[(2,.B ar)],[.box [.I ad,.I ac,.I y,.I aa,.L 5 (jP ab)]],Tryz.f28.ntmps⟩ ?_ ?_
    ·refine gqA 53 hb16 (fun a6 hb16=>?_);refine gqA 56 hb16 (fun a7 hb16=>?_);refine gqA 59 hb16 (fun a8 hb16=>?_);obtain⟨a9,al,hb16⟩:=gJ hb16;refine jK (gG (pK ab (a1:=c) (fun _=>rfl) (fun x0 r hr=>f x0 hr) al)) ?_;cases hb16;exact eJ
    exact goR h
   ·refine goL ?_;obtain⟨au,hb21,h⟩:=gJ h;refine gAn ⟨[(1,.ptr 0 0),(3,.B (y==0 && aa==0)),(4,.B (ac==0)),(5,.d (.b ((ab.length:Int)==0))),(49,.B au)],[.box [.I ad,.I ac,.I y,.I aa,.L 5 (jP ab)]],Tryz.f28.ntmps⟩ ?_ ?_
    ·refine mQ (fun ah=>?_) (fun ah=>?_)
     ·replace hb21:=kT ah hb21;refine yE ?_;cases hb21;exact eJ
     ·replace hb21:=kU ah hb21;refine goL ?_;cases hb21;exact eJ
    refine goC h ?_ ?_<;>intro ba h
    ·refine goS ?_;obtain⟨av,hb24,h⟩:=gJ h;refine kC ⟨[(2,.B av)],[.box [.I ad,.I ac,.I y,.I aa,.L 5 (jP ab)]],Tryz.f28.ntmps⟩ ?_ ?_
     ·refine gqA 53 hb24 (fun bb hb24=>?_);refine gqA 56 hb24 (fun bc hb24=>?_);refine gqA 59 hb24 (fun bd hb24=>?_);obtain⟨be,am,hb24⟩:=gJ hb24;refine jK (gG (pK ab (a1:=c) (fun _=>rfl) (fun x0 r hr=>f x0 hr) am)) ?_;cases hb24;exact eJ
     exact goR h
    ·exact goR h
mutual
def wV:Nat→gI→Option (Bool)
 | 0,_=>none
 | n+1,c=>zT (wV n) (vB n) c
def vB:Nat→gI→Option (Bool)
 | 0,_=>none
 | n+1,c=>gBj (wV n) (vB n) c
end
theorem gKm:∀(n:Nat),gCs (wV n)∧gBi (vB n):=by
 intro n
 induction n with
 | zero=>exact⟨(by intro c r h;cases h),(by intro c r h;cases h)⟩
 | succ n ih=>
   obtain⟨ih0,ih1⟩:=ih;refine⟨(fun c r h=>gLe ih0 ih1 c h),(fun c r h=>gMt ih0 ih1 c h)⟩
theorem gMu:∀(n:Nat),gBi (vB n):=fun n=>(gKm n).2
theorem gR2(p t:gB)(hp:tnd p≤40000)(ht:tok t):gIi p t=some (match mtT p t [] with | some l=>(l,true) | none=>([],false)):=by
 obtain⟨q,h,c⟩:=(gVb 100000).2 [p] [t] [] (by simp only [gGj];omega) (fun b hb=>by simp at hb) (by simpa using ht) rfl (by simp [gGj];omega);have y:((([p]:List gB).length:Int) !=(([t]:List gB).length:Int))=false:=by simp
 unfold gIi gI3;rw [y,jC,kF h];simp only [gWt] at c;cases hm:mtT p t [] with
 | none=>
   rw [hm] at c;have f:q.1=false:=c;rw [f];rfl
 | some l=>
   rw [hm] at c;have f:q=(true,l):=c;subst f;rfl
theorem gQp{p t:gB}{l:List gV}(hp:tnd p≤40000)(ht:tok t)(h:mtT p t []=some l):gC1 p t=some (l,true):=by
 obtain⟨q,f,c⟩:=gSa p t hp ht;rw [h] at c;have c:q=(true,l):=c;subst c;exact f
def gGc(w:gM)(o:gF):Option gY:=bnd (at? w.packages o.package) fun p=>at? p.instances o.at_
theorem gKn{w:gM}{o:gF}{i:gY}(h:gGc w o=some i):∃p,at? w.packages o.package=some p∧at? p.instances o.at_=some i:=gJ h
theorem hFp{w:gM}{o:gF}{i:gY}(h:gGc w o=some i):0≤o.package∧0≤o.at_:=by
 obtain⟨p,c,f⟩:=gKn h;exact⟨(gAz c).1,(gAz f).1⟩
theorem gI0{w:gM}{o:gF}{i:gY}(h:gGc w o=some i):gC9 w o=some (i,true):=by
 obtain⟨p,c,f⟩:=gKn h;obtain⟨a1,a2⟩:=gAz c;obtain⟨y,q⟩:=gAz f;have c1:=(List.getElem?_eq_some_iff.1 a2).1;have c2:=(List.getElem?_eq_some_iff.1 q).1;unfold gC9;rw [decide_eq_false (show ¬o.package < 0 by omega),decide_eq_false (show ¬o.package≥(w.packages.length:Int) by omega),decide_eq_false (show ¬o.at_ < 0 by omega),kF c,kF c,kF f,decide_eq_false (show ¬o.at_≥(p.instances.length:Int) by omega)];rfl
theorem hCe(c:Nat)(k:List gF→Option (List gF)):∀(l:List gY)(f:Nat)(h:List gF),gAo c k l f h=qH c k l f h
 | [],_,_=>rfl
 | x::l,f,h=>by rw [gAo,qH,hCe c k l]
theorem hCf:∀(l:List jX)(c:Nat)(f:List gF),zM l c f=pY l c f
 | [],_,_=>rfl
 | x::l,c,f=>by
   rw [zM,pY,hCe];congr 1;funext y;exact hCf l (c+1) y
def msp(a b:gB):Bool:=(mtT b a []).isSome && !(mtT a b []).isSome
theorem sMatches_eq'(p t:gB)(hp:tnd p≤40000)(ht:tok t):gGi p t=some (mtT p t []).isSome:=by
 unfold gGi;rw [kF (gR2 p t hp ht)];cases mtT p t []<;>rfl
theorem hJa{a b:gB}(ha:tok a)(hb:tok b)(sa:tnd a≤40000)(sb:tnd b≤40000):gKq a b=some (msp a b):=by
 unfold gKq msp;rw [kF (gLv b a sb ha)];cases (mtT b a []).isSome with
 | false=>rfl
 | true=>rw [jV,kF (gLv a b sa hb)];rfl
theorem hJb{a b:gB}(ha:tok a)(hb:tok b)(sa:tnd a≤40000)(sb:tnd b≤40000):gBv a b=some (msp a b):=by
 unfold gBv wS msp;rw [kF (kF (sMatches_eq' b a sb ha))];cases (mtT b a []).isSome with
 | false=>rfl
 | true=>rw [jV,kF (kF (sMatches_eq' a b sa hb))];rfl
def hd2(w:gM)(o:gF):gB:=match gGc w o with | some i=>i.head | none=>⟨0,[],[]⟩
def gZf(w:gM)(g:gT)(o:gF):Bool:=match gGc w o with | some i=>(i.trait==g.trait) && (mtT i.head g.type_ []).isSome | none=>false
structure WI (w:gM)(all:List gF):Prop where
 al:gBs w=some all
 len:all.length≤4000
 look:∀o∈all,∃i,gGc w o=some i∧tok i.head∧tnd i.head≤40000
section
variable {w:gM}{all:List gF}(hw:WI w all)
include hw
theorem gX8(g:gT)(ht:tok g.type_):∀(l acc:List gF),(∀o∈l,o∈all)→acc.length+l.length≤4294967296→mM w g l acc=some (acc++l.filter (gZf w g))
 | [],acc,_,_=>by simp [mM]
 | o::l,acc,h,hl=>by
   simp only [List.length_cons] at hl;obtain⟨i,c,h2,f⟩:=hw.look o (h o (by simp));obtain⟨p,q,y⟩:=gKn c;have ih:∀acc',acc'.length≤acc.length+1→mM w g l acc'=some (acc'++l.filter (gZf w g)):=fun acc' ha=>gX8 g ht l acc' (fun o ho=>h o (by simp [ho])) (by omega);have hs:gZf w g o=((i.trait==g.trait) && (mtT i.head g.type_ []).isSome):=by unfold gZf;rw [c]
   rw [mM,kF q,kF y,List.filter_cons,hs];cases ht1:(i.trait==g.trait)with
   | false=>simp only [jC,bnd,Bool.false_and];rw [ih acc (by omega)];rfl
   | true=>
     rw [jV,kF (kF (sMatches_eq' i.head g.type_ f ht)),Bool.true_and];cases (mtT i.head g.type_ []).isSome with
     | false=>rw [jC,ih acc (by omega)];rfl
     | true=>rw [jV,uF (by simp;omega),ih _ (by simp)];simp
theorem hFq(g:gT)(ht:tok g.type_):wF w g=some (all.filter (gZf w g)):=by
 unfold wF
 have:=hw.len
 rw [kF hw.al,gX8 hw g ht all [] (fun o ho=>ho) (by simp;omega)];rfl
theorem hFr(g:gT)(ht:tok g.type_):gQs w g=some (all.filter (gZf w g)):=by
 have hA:gIh w=some all:=by
  unfold gIh;rw [hCf];exact hw.al
 have hd:∀o∈all,gH3 o w g=some (!gZf w g o):=by
  intro o ho;obtain⟨i,c,h,f⟩:=hw.look o ho;unfold gH3 gZf;rw [kF (gI0 c),c];simp only;cases (i.trait==g.trait)with
  | false=>rfl
  | true=>
    simp only [Bool.not_true,jC,Bool.true_and];rw [gLv i.head g.type_ f ht];rfl
 unfold gQs;rw [kF hA,hMu all hw.len hd];simp only [bnd,Bool.not_not]
def hCg(w:gM)(cs:List gF)(i:gY):Bool:=cs.all (fun o=> !msp (hd2 w o) i.head)
omit hw in
theorem gQq(i:gY)(k:Bool→Option (gF × Int)):∀(l:List gF),(∀o∈l,∃j,gGc w o=some j)→qF w i k l false=k false
 | [],_=>rfl
 | o::l,h=>by
   obtain⟨j,c⟩:=h o (by simp);obtain⟨p,f,q⟩:=gKn c;rw [qF,kF f,kF q,jC];exact gQq i k l (fun o ho=>h o (by simp [ho]))
theorem gX9{i:gY}(hi:tok i.head)(si:tnd i.head≤40000)(k:Bool→Option (gF × Int)):∀(l:List gF),(∀o∈l,o∈all)→qF w i k l true=k (hCg w l i)
 | [],_=>rfl
 | o::l,h=>by
   obtain⟨j,c,f,y⟩:=hw.look o (h o (by simp));obtain⟨p,h4,h5⟩:=gKn c;have e:hd2 w o=j.head:=by unfold hd2;rw [c]
   have eb:hCg w (o::l) i=(!msp j.head i.head && hCg w l i):=by unfold hCg;rw [List.all_cons,e]
   rw [qF,kF h4,kF h5,jV,hJb f hi y si,eb];simp only [bnd];cases msp j.head i.head with
   | true=>exact gQq i k l (fun o ho=>by obtain⟨j,q,_⟩:=hw.look o (h o (by simp [ho]));exact⟨j,q⟩)
   | false=>exact gX9 hi si k l (fun o ho=>h o (by simp [ho]))
theorem hFs{i:gY}(hi:tok i.head)(si:tnd i.head≤40000)(l:List gF)(h:∀o∈l,o∈all):gB0 l (fun z=>gKr z w i)=some (!hCg w l i):=by
 have hq:∀o∈l,gKr o w i=some (msp (hd2 w o) i.head):=fun o ho=>by
  obtain⟨j,c,f,q⟩:=hw.look o (h o ho);have e:hd2 w o=j.head:=by unfold hd2;rw [c]
  unfold gKr;rw [kF (gI0 c),e,kF (hJa f hi q si)]
 have eb:(!hCg w l i)=l.any (fun o=>msp (hd2 w o) i.head):=by
  unfold hCg;rw [List.not_all_eq_any_not];simp
 unfold gB0 gDk;rcases gF1 (p:=fun z=>gKr z w i) l 0 hq with ⟨c,_,q⟩ | ⟨y,n,c,f,_⟩
 ·rw [c,eb,q];rfl
 ·rw [f,eb,y];simp only [bnd];rw [show decide (((0+n:Nat):Int)≥0)=true from decide_eq_true (by omega)]
def hHh(w:gM)(cs:List gF)(gr:Bool):List gF→gF × Int
 | []=>(⟨0,0⟩,1)
 | o::l=>match gGc w o with
   | some i=>cnd (hCg w cs i) (cnd (i.default_ && !gr) (⟨0,0⟩,2) (o,0)) (hHh w cs gr l)
   | none=>(⟨0,0⟩,1)
theorem hCh{g:gT}{gr:Bool}(hg:gBw g.type_=some gr)(cs:List gF)(hc:∀o∈cs,o∈all):∀(l:List gF),(∀o∈l,o∈all)→qU w g cs l=some (hHh w cs gr l)
 | [],_=>rfl
 | o::l,h=>by
   obtain⟨i,c,f,q⟩:=hw.look o (h o (by simp));obtain⟨p,y,h5⟩:=gKn c;have ih:=hCh hg cs hc l (fun o ho=>h o (by simp [ho]));rw [qU,kF y,kF h5,gX9 hw f q _ cs hc,hHh,c];simp only;cases hCg w cs i with
   | false=>simp only [jC,bnd];exact ih
   | true=>
     simp only [jV];cases i.default_ with
     | false=>rfl
     | true=>simp only [jV];rw [hg];cases gr<;>rfl
theorem hCi{g:gT}{gr:Bool}(hg:gDa g.type_=some gr)(cs:List gF)(hc:∀o∈cs,o∈all):∀(l:List gF),(∀o∈l,o∈all)→gB1 w g cs l=some (hHh w cs gr l)
 | [],_=>rfl
 | o::l,h=>by
   obtain⟨i,c,f,q⟩:=hw.look o (h o (by simp));have ih:=hCi hg cs hc l (fun o ho=>h o (by simp [ho]));rw [gB1,kF (gI0 c),kF (hFs hw f q cs hc),hHh,c];simp only;cases hCg w cs i with
   | false=>simp only [Bool.not_false,jV,jC];exact ih
   | true=>
     simp only [Bool.not_true,jC,jV];cases i.default_ with
     | false=>rfl
     | true=>simp only [jV];rw [hg];cases gr<;>rfl
def hFt(w:gM)(all:List gF)(gr:Bool)(g:gT):gF × Int:=hHh w (all.filter (gZf w g)) gr (all.filter (gZf w g))
theorem hJc{g:gT}(ht:tok g.type_){gr:Bool}(hg:gBw g.type_=some gr):gAf w g=some (hFt w all gr g):=by
 have hc:∀o∈all.filter (gZf w g),o∈all:=fun o ho=>(List.mem_filter.1 ho).1;unfold gAf;rw [kF (hFq hw g ht),hCh hw hg _ hc _ hc];rfl
theorem hCk{g:gT}(ht:tok g.type_){gr:Bool}(hg:gDa g.type_=some gr):gFs w g=some (hFt w all gr g):=by
 have hc:∀o∈all.filter (gZf w g),o∈all:=fun o ho=>(List.mem_filter.1 ho).1;unfold gFs;rw [kF (hFr hw g ht),hCi hw hg _ hc _ hc];rfl
omit hw in
theorem gYa{cs:List gF}{gr:Bool}{o:gF}:∀{l:List gF},hHh w cs gr l=(o,0)→o∈l
 | [],h=>by cases h
 | a::l,h=>by
   rw [hHh] at h;cases hl:gGc w a with
   | none=>rw [hl] at h;cases h
   | some i=>
     rw [hl] at h;simp only at h;cases hb:hCg w cs i with
     | false=>rw [hb,jC] at h;exact List.mem_cons_of_mem _ (gYa h)
     | true=>
       rw [hb,jV] at h;cases hd:(i.default_ && !gr)with
       | true=>rw [hd] at h;cases h
       | false=>rw [hd] at h;cases h;exact List.mem_cons_self
omit hw in
theorem hJf{g:gT}{gr:Bool}{o:gF}(h:hFt w all gr g=(o,0)):o∈all∧∃i l,gGc w o=some i∧i.trait=g.trait∧mtT i.head g.type_ []=some l:=by
 obtain⟨f,c⟩:=List.mem_filter.1 (gYa h);refine⟨f,?_⟩;unfold gZf at c;cases hl:gGc w o with
 | none=>rw [hl] at c;cases c
 | some i=>
   rw [hl] at c;simp only [Bool.and_eq_true,beq_iff_eq] at c;cases hm:mtT i.head g.type_ [] with
   | none=>rw [hm] at c;cases c.2
   | some l=>exact⟨i,l,rfl,c.1,hm⟩
end
end Go.Proofs.YtfpdlnkkcnmebaaGreat
